/- The walk of GhostConns; no conditions. -/
import Derived.Test.YthjimddhnlmlhaaAwake
namespace Go.Proofs.Ythjimddhnlmlhaa
open Go.Vc
theorem maps_ok {fs : List FactV} (hok : ∀ x ∈ fs, x.f.ok) : ∀ f ∈ fs.map (fun x : FactV => x.f), f.ok := by
  intro f hf; obtain ⟨x, hx, rfl⟩ := List.mem_map.1 hf; exact hok x hx
theorem take_ok {fs : List FactV} (hok : ∀ x ∈ fs, x.f.ok) (k : Nat) : ∀ x ∈ fs.take k, x.f.ok := fun x hx => hok x (List.mem_of_mem_take hx)
theorem pl425 : plOK Try.prog 25 #[(0, 1), (1, 1), (2, 1)] := by intro fs h w; rw [Try.underlying25] at h; cases h; simp
theorem pl434 : plOK Try.prog 34 #[(0, 1), (1, 1)] := by intro fs h w; rw [Try.underlying34] at h; cases h; simp
theorem pl443 : plOK Try.prog 43 #[(0, 1), (1, 1), (2, 1), (3, 1), (4, 1), (5, 1), (6, 1), (7, 1)] := by intro fs h w; rw [Try.underlying43] at h; cases h; simp

section
variable {P : Program} {E : Env} {L : List HProp} {d : Option Tmp} {t T : TypeId} {ps : String} {af : Array Edge} {gd : Option (Nat × Bool)} {x : Operand}
theorem e_fi {S fld : Nat} {fs : Array Field} {f : Field} {D : TypeDesc} {cs : List Value} {v : Value} (hu : P.underlying S = some (.struct fs)) (hf : fs[fld]? = some f) (hd : P.underlying f.type = some D) (hx : ev E x = .agg ⟨cs⟩) (hv : cs[f.offset]? = some v) (hD : aggD D = false := by rfl) :
    Ev P E L ⟨d, .field S x fld, t, ps, af, gd⟩ v := fun _ w _ => by
  have hp := run_part1 (P := P) (cs := ⟨cs⟩) (off := f.offset) (v := v) hd hD (by simpa using hv) w
  simp [execOp, Instr.field, run_underlying hu, hf, hx, asAgg, hp]
end
abbrev c0 (x : FactV) : Bool := decide (x.f.conn = 0)
abbrev c1 (x : FactV) : Bool := decide (x.f.conn = 1)
theorem fcells_snoc (fs : List FactV) (x : FactV) : fcells (fs ++ [x]) = fcells fs ++ x.cells := by simp [fcells]
theorem conns_pairV (fs : List FactV) (h : ∀ x ∈ fs, x.f.conn = 0 ∨ x.f.conn = 1) : ((checkP (fs.map fun x : FactV => x.f)).r = 0 ↔ (checkP ((fs.filter c0).map fun x : FactV => x.f)).r = 0 ∧ (checkP ((fs.filter c1).map fun x : FactV => x.f)).r = 0) := by
  have h1 := conns_pair (fs.map fun x : FactV => x.f) (fun f hf => by obtain ⟨x, hx, rfl⟩ := List.mem_map.1 hf; exact h x hx)
  rw [List.filter_map, List.filter_map] at h1
  exact h1
theorem copied_own {A : HProp} {la : Option Addr} {lc : Nat} {es fs : List FactV} {sa : Option Addr} (hfs : ∀ B w, Sat B w [A] → RdFs w sa fs) (hsub : ∀ x ∈ es, x ∈ fs) (hok : ∀ x ∈ fs, x.f.ok) (hn : es.length * 72 ≤ 140737488355328) :
    Tri Try.prog 12 #[.slice la es.length lc] [sown 43 8 (.slice la es.length lc) es.length (fcells es), A] (fun v L => ∃ la2 lc2 es2, v = .slice la2 es2.length lc2 ∧ L = [factsM la2 lc2 es2, sown 43 8 (.slice la es.length lc) es.length (fcells es), A] ∧ es2.map (fun x : FactV => x.f) = es.map fun x : FactV => x.f) := by
  by_cases hz : la = none ∧ lc ≠ 0
  · intro B F w s
    exfalso
    obtain ⟨_, a', c', h1, h2, _⟩ := s.rds .here
    cases h1
    exact hz.2 (h2 hz.1).2
  have h := copied_t (A := allP [sown 43 8 (.slice la es.length lc) es.length (fcells es), A]) (sa := la) (sc := lc) (fs := es) (fun B w s => by
    have s2 := Sat.unpack (F := []) s
    exact fs_of_rds (s2.rds .here) (fun x hx => (hfs B w s2.tail).2.2 x (hsub x hx))) (fun e => by
      apply Decidable.byContradiction
      exact fun k => hz ⟨e, k⟩) (fun x hx => hok x (hsub x hx)) hn
  have h2 : Tri Try.prog 12 #[.slice la es.length lc] [allP [sown 43 8 (.slice la es.length lc) es.length (fcells es), A]] (fun v L => ∃ la2 lc2 es2, v = .slice la2 es2.length lc2 ∧ L = [factsM la2 lc2 es2, sown 43 8 (.slice la es.length lc) es.length (fcells es), A] ∧ es2.map (fun x : FactV => x.f) = es.map fun x : FactV => x.f) := h.imp fun v M hR => by
    obtain ⟨la2, lc2, es2, rfl, rfl, hm⟩ := hR
    refine ⟨[factsM la2 lc2 es2, sown 43 8 (.slice la es.length lc) es.length (fcells es), A], ⟨la2, lc2, es2, rfl, rfl, hm⟩, fun B w F s => ?_⟩
    have s1 := Sat.unpack (s.perm (.swap _ _ _))
    exact s1.fin (L1 := [factsM la2 lc2 es2, _, A]) (F := F) (.cons (.there (.there .here)) (.cons .here (.cons .here .done)))
  intro B F w s
  exact h2 B F w (Sat.pack s)

set_option maxHeartbeats 4000000 in
theorem conns_t {A : HProp} {sa : Option Addr} {sc : Nat} {fs : List FactV} (hfs : ∀ B w, Sat B w [A] → RdFs w sa fs) (hsn : sa = none → fs.length = 0 ∧ sc = 0) (hok : ∀ x ∈ fs, x.f.ok) (hn : fs.length * 72 ≤ 140737488355328) : Tri Try.prog 6 #[.slice sa fs.length sc] [A] (isR (.bool true) [A]) := by
  refine tri_of Try.call6 Try.func6 rfl fun B F => ?_
  refine gc_seq ?_
  refine gc_region ?_
  refine g_ev (e_as) ?_
  refine g_nil ?_
  refine gc_seq ?_
  refine gc_seq ?_
  refine gc_region ?_
  refine g_eff (s_call awake18_t .nil) ?_
  rintro _ _ ⟨_, ⟨rfl, rfl⟩, rfl⟩
  refine g_ev (e_not rfl) ?_
  refine g_nil ?_
  refine gc_false ?_
  refine gc_skip ?_
  refine gc_seq ?_
  refine gc_seq ?_
  refine gc_region ?_
  refine g_ev (e_mv) ?_
  refine g_ev (e_len Try.underlying26 rfl) ?_
  refine g_ev (e_gt rfl rfl) ?_
  refine g_nil ?_
  first | refine gc_dec rfl (fun c11 => ?_) (fun c11 => ?_) | refine gc_ndec rfl (fun c11 => ?_) (fun c11 => ?_) | refine gc_cond rfl (fun c11 => ?_) (fun c11 => ?_)
  · skip
    refine gc_seq ?_
    refine gc_region ?_
    refine g_ev (e_as) ?_
    refine g_nil ?_
    refine gc_ret ?_
    exact ret1 (v := .bool true) (L1 := [A]) rfl (by (conv => lhs; whnf); try rfl) ⟨rfl, rfl⟩ (fun _ h => h.fin (by repeat ((conv => arg 1; whnf); (conv => arg 2; whnf); first | with_reducible exact .done | exact Fin.all _ | refine .cons (by repeat ((conv => arg 2; whnf); first | with_reducible exact .here | ((with_reducible refine Del.hereC ?_); rfl) | ((with_reducible refine Del.hereS ?_ ?_ ?_) <;> rfl) | exact .here | apply Del.there)) ?_ | refine .drop ?_)))
  · skip
    refine gc_skip ?_
    refine gc_seq ?_
    refine gc_region ?_
    refine g_eff (s_call pair1_t .nil) ?_
    rintro _ _ ⟨_, ⟨N, rfl, ah, ch, ad, cd, mx, rfl, hrd⟩, rfl⟩
    refine g_eff (s_al Try.zeroValue25) ?_
    rintro _ _ ⟨b3, rfl, rfl⟩
    refine g_eff (s_stA Try.sizeOf25 rfl rfl (by repeat ((conv => arg 3; whnf); first | with_reducible exact .here | apply Turn.there))) ?_
    rintro _ _ ⟨rfl, rfl⟩
    refine g_nil ?_
    refine gc_seq ?_
    refine gc_region ?_
    refine g_eff (s_al Try.zeroValue55) ?_
    rintro _ _ ⟨b4, rfl, rfl⟩
    refine g_nil ?_
    refine gc_seq ?_
    refine gc_seq ?_
    refine gc_region ?_
    refine g_ev (e_as) ?_
    refine g_nil ?_
    refine gc_block ?_
    refine gc_loop (α := Nat × Option Addr × Nat × Option Addr × Nat) (fun y E L => (y.1 ≤ fs.length) ∧ (∀ x ∈ fs.take y.1, x.f.conn = 0 ∨ x.f.conn = 1) ∧ E 0 = .slice sa fs.length sc ∧ E 3 = .pointer (some ⟨b3, 0, none⟩) ∧ E 4 = .pointer (some ⟨b4, 0, none⟩) ∧ E 5 = .int .i64 (y.1 : Int) ∧ ∀ w, Sat B w L → Sat B w (blk b3 25 [.slice ah [10, 11].length ch, .slice ad [10, 11].length cd, .int .u32 mx] :: blk b4 55 [.slice y.2.1 ((fs.take y.1).filter c0).length y.2.2.1, .slice y.2.2.2.1 ((fs.take y.1).filter c1).length y.2.2.2.2] :: sown 43 8 (.slice y.2.1 ((fs.take y.1).filter c0).length y.2.2.1) ((fs.take y.1).filter c0).length (fcells ((fs.take y.1).filter c0)) :: sown 43 8 (.slice y.2.2.2.1 ((fs.take y.1).filter c1).length y.2.2.2.2) ((fs.take y.1).filter c1).length (fcells ((fs.take y.1).filter c1)) :: N :: A :: F)) (fun y => fs.length - y.1) ((0, none, 0, none, 0)) ?_ ?_
    · exact ⟨Nat.zero_le _, (by intro x hx; cases hx), (by (conv => lhs; whnf); try rfl), (by (conv => lhs; whnf); try rfl), (by (conv => lhs; whnf); try rfl), (by (conv => lhs; whnf); try rfl), (fun _ h => h.fin (L1 := [blk b3 25 [.slice ah [10, 11].length ch, .slice ad [10, 11].length cd, .int .u32 mx], blk b4 55 [.slice none 0 0, .slice none 0 0], sown 43 8 (.slice none 0 0) 0 [], sown 43 8 (.slice none 0 0) 0 [], N, A]) (F := F) (.cons (by repeat ((conv => arg 2; whnf); first | with_reducible exact .here | ((with_reducible refine Del.hereC ?_); rfl) | ((with_reducible refine Del.hereS ?_ ?_ ?_) <;> rfl) | exact .here | apply Del.there)) (.cons (by repeat ((conv => arg 2; whnf); first | with_reducible exact .here | ((with_reducible refine Del.hereC ?_); rfl) | ((with_reducible refine Del.hereS ?_ ?_ ?_) <;> rfl) | exact .here | apply Del.there)) (.fold nil_fold (.fold nil_fold (by repeat ((conv => arg 1; whnf); (conv => arg 2; whnf); first | with_reducible exact .done | exact Fin.all _ | refine .cons (by repeat ((conv => arg 2; whnf); first | with_reducible exact .here | ((with_reducible refine Del.hereC ?_); rfl) | ((with_reducible refine Del.hereS ?_ ?_ ?_) <;> rfl) | exact .here | apply Del.there)) ?_ | refine .drop ?_)))))))⟩
    · rintro ⟨i, la, lc, lb, ld⟩ E L ⟨hi, hall, s0, s3, s4, s5, hL⟩
      dsimp only at hi hall s0 s3 s4 s5 hL
      refine gc_imp hL ?_
      refine gc_slot 0 _ ?_ s0
      refine gc_slot 3 _ ?_ s3
      refine gc_slot 4 _ ?_ s4
      refine gc_slot 5 _ ?_ s5
      clear hL s0 s3 s4 s5
      refine gc_seq ?_
      refine gc_seq ?_
      refine gc_region ?_
      refine g_ev (e_mv) ?_
      refine g_ev (e_mv) ?_
      refine g_ev (e_len Try.underlying26 rfl) ?_
      refine g_ev (e_lt rfl rfl) ?_
      refine g_nil ?_
      first | refine gc_dec rfl (fun c16 => ?_) (fun c16 => ?_) | refine gc_ndec rfl (fun c16 => ?_) (fun c16 => ?_) | refine gc_cond rfl (fun c16 => ?_) (fun c16 => ?_)
      · skip
        refine gc_skip ?_
        refine gc_seq ?_
        refine gc_block ?_
        refine gc_seq ?_
        refine gc_seq ?_
        refine gc_region ?_
        obtain ⟨x, hx⟩ : ∃ x, fs[i]? = some x := ⟨_, List.getElem?_eq_getElem (by omega)⟩
        refine g_fact (φ := ∃ p, sa = some p) (fun w h => (by have h0 := (hfs _ w ((h.fin (L1 := [A]) (F := F) (by repeat ((conv => arg 1; whnf); (conv => arg 2; whnf); first | with_reducible exact .done | exact Fin.all _ | refine .cons (by repeat ((conv => arg 2; whnf); first | with_reducible exact .here | ((with_reducible refine Del.hereC ?_); rfl) | ((with_reducible refine Del.hereS ?_ ?_ ?_) <;> rfl) | exact .here | apply Del.there)) ?_ | refine .drop ?_))).left (L1 := [A]))).1; cases sa with | none => rw [h0 rfl] at hx; cases hx | some p => exact ⟨p, rfl⟩)) fun ⟨p, e1⟩ => ?_
        subst e1
        refine g_ev (e_mv) ?_
        refine g_ev (e_mv) ?_
        refine g_ev (e_iaA (q := i) Try.underlying26 Try.sizeOf43 rfl rfl rfl (by omega)) ?_
        refine g_ev (e_faA Try.underlying43 rfl rfl Try.sizeOf3) ?_
        refine g_ev (e_ldc (v := .int .i64 x.f.conn) Try.underlying3 rfl (fun B w h => (hfs B w ((h.fin (L1 := [A]) (F := F) (by repeat ((conv => arg 1; whnf); (conv => arg 2; whnf); first | with_reducible exact .done | exact Fin.all _ | refine .cons (by repeat ((conv => arg 2; whnf); first | with_reducible exact .here | ((with_reducible refine Del.hereC ?_); rfl) | ((with_reducible refine Del.hereS ?_ ?_ ?_) <;> rfl) | exact .here | apply Del.there)) ?_ | refine .drop ?_))).left (L1 := [A]))).2.1 p rfl _ _ hx 1 _ rfl)) ?_
        refine g_ev (e_lt rfl rfl) ?_
        refine g_ev (e_mv) ?_
        first | refine g_dec 25 rfl (fun c25 => ?_) (fun c25 => ?_) | refine g_ndec 25 rfl (fun c25 => ?_) (fun c25 => ?_) | refine g_bool 25 rfl (fun c25 => ?_) (fun c25 => ?_)
        · skip
          refine g_not ?_
          refine g_not ?_
          refine g_not ?_
          refine g_not ?_
          refine g_not ?_
          refine g_not ?_
          refine g_ev (e_pk rfl) ?_
          refine g_nil ?_
          refine gc_true ?_
          refine gc_seq ?_
          refine gc_draw (D := [N, A]) (fin := none) (plan := [(true, 0), (true, 1), (false, 2), (false, 3), (true, 4), (true, 5), (true, 6)]) rfl (by kernel_rfl) (by kernel_rfl) rfl (.cons (by repeat ((conv => arg 2; whnf); first | with_reducible exact .here | ((with_reducible refine Del.hereC ?_); rfl) | ((with_reducible refine Del.hereS ?_ ?_ ?_) <;> rfl) | exact .here | apply Del.there)) (.cons (by repeat ((conv => arg 2; whnf); first | with_reducible exact .here | ((with_reducible refine Del.hereC ?_); rfl) | ((with_reducible refine Del.hereS ?_ ?_ ?_) <;> rfl) | exact .here | apply Del.there)) (.nil))) ?_
          refine gp_ev rfl (e_ldA Try.underlying25 rfl (by repeat ((conv => arg 2; whnf); first | with_reducible exact .here | ((with_reducible refine Del.hereC ?_); rfl) | ((with_reducible refine Del.hereS ?_ ?_ ?_) <;> rfl) | exact .here | apply Del.there)) Try.sizeOf25 (by simp)) ?_
          refine gp_ev rfl (e_mv) ?_
          refine gp_eff rfl (s_call (copied_t (fs := fs) hfs (fun h => (hsn h).2) hok (by first | omega | (simp only [List.length_take]; omega))) (.cons (by repeat ((conv => arg 2; whnf); first | with_reducible exact .here | ((with_reducible refine Del.hereC ?_); rfl) | ((with_reducible refine Del.hereS ?_ ?_ ?_) <;> rfl) | exact .here | apply Del.there)) (.nil))) ?_
          rintro _ _ ⟨_, ⟨la1, lc1, fs1, rfl, rfl, hm1⟩, rfl⟩
          refine gp_eff rfl (s_call (check_c (A := N) (A2 := factsM la1 lc1 fs1) (hs := [10, 11]) (ds := [10, 11]) (FS := (fs.map fun x : FactV => x.f)) ⟨ah, ch, ad, cd, mx, rfl, hrd⟩ (by decide) hm1 (fun B w h => factsM_rd h) (maps_ok hok) (by rw [List.length_map]; omega)) (.cons (by repeat ((conv => arg 2; whnf); first | with_reducible exact .here | ((with_reducible refine Del.hereC ?_); rfl) | ((with_reducible refine Del.hereS ?_ ?_ ?_) <;> rfl) | exact .here | apply Del.there)) (.cons (by repeat ((conv => arg 2; whnf); first | with_reducible exact .here | ((with_reducible refine Del.hereC ?_); rfl) | ((with_reducible refine Del.hereS ?_ ?_ ?_) <;> rfl) | exact .here | apply Del.there)) (.nil)))) ?_
          rintro _ _ ⟨_, ⟨rfl, rfl⟩, rfl⟩
          refine gp_ev rfl (e_fi Try.underlying34 rfl Try.underlying3 rfl rfl) ?_
          refine gp_ev rfl ((e_ne rfl rfl).to (v' := .bool true) (congrArg Value.bool (by rw [decide_eq_false (conns_odd (f := x.f) (List.mem_map.2 ⟨x, List.mem_of_getElem? hx, rfl⟩) (by omega))]; rfl))) ?_
          refine gp_ev rfl (e_as) ?_
          refine gp_nil ?_
          refine gc_ret ?_
          exact ret1 (v := .bool true) (L1 := [A]) rfl (by (conv => lhs; whnf); try rfl) ⟨rfl, rfl⟩ (fun _ h => h.fin (by repeat ((conv => arg 1; whnf); (conv => arg 2; whnf); first | with_reducible exact .done | exact Fin.all _ | refine .cons (by repeat ((conv => arg 2; whnf); first | with_reducible exact .here | ((with_reducible refine Del.hereC ?_); rfl) | ((with_reducible refine Del.hereS ?_ ?_ ?_) <;> rfl) | exact .here | apply Del.there)) ?_ | refine .drop ?_)))
        · skip
          refine g_ev (e_mv) ?_
          refine g_ev (e_mv) ?_
          refine g_ev (e_iaA (q := i) Try.underlying26 Try.sizeOf43 rfl rfl rfl (by omega)) ?_
          refine g_ev (e_faA Try.underlying43 rfl rfl Try.sizeOf3) ?_
          refine g_ev (e_ldc (v := .int .i64 x.f.conn) Try.underlying3 rfl (fun B w h => (hfs B w ((h.fin (L1 := [A]) (F := F) (by repeat ((conv => arg 1; whnf); (conv => arg 2; whnf); first | with_reducible exact .done | exact Fin.all _ | refine .cons (by repeat ((conv => arg 2; whnf); first | with_reducible exact .here | ((with_reducible refine Del.hereC ?_); rfl) | ((with_reducible refine Del.hereS ?_ ?_ ?_) <;> rfl) | exact .here | apply Del.there)) ?_ | refine .drop ?_))).left (L1 := [A]))).2.1 p rfl _ _ hx 1 _ rfl)) ?_
          refine g_ev (e_gt rfl rfl) ?_
          refine g_ev (e_pk rfl) ?_
          refine g_nil ?_
          first | refine gc_dec rfl (fun c32 => ?_) (fun c32 => ?_) | refine gc_ndec rfl (fun c32 => ?_) (fun c32 => ?_) | refine gc_cond rfl (fun c32 => ?_) (fun c32 => ?_)
          · skip
            refine gc_seq ?_
            refine gc_draw (D := [N, A]) (fin := none) (plan := [(true, 0), (true, 1), (false, 2), (false, 3), (true, 4), (true, 5), (true, 6)]) rfl (by kernel_rfl) (by kernel_rfl) rfl (.cons (by repeat ((conv => arg 2; whnf); first | with_reducible exact .here | ((with_reducible refine Del.hereC ?_); rfl) | ((with_reducible refine Del.hereS ?_ ?_ ?_) <;> rfl) | exact .here | apply Del.there)) (.cons (by repeat ((conv => arg 2; whnf); first | with_reducible exact .here | ((with_reducible refine Del.hereC ?_); rfl) | ((with_reducible refine Del.hereS ?_ ?_ ?_) <;> rfl) | exact .here | apply Del.there)) (.nil))) ?_
            refine gp_ev rfl (e_ldA Try.underlying25 rfl (by repeat ((conv => arg 2; whnf); first | with_reducible exact .here | ((with_reducible refine Del.hereC ?_); rfl) | ((with_reducible refine Del.hereS ?_ ?_ ?_) <;> rfl) | exact .here | apply Del.there)) Try.sizeOf25 (by simp)) ?_
            refine gp_ev rfl (e_mv) ?_
            refine gp_eff rfl (s_call (copied_t (fs := fs) hfs (fun h => (hsn h).2) hok (by first | omega | (simp only [List.length_take]; omega))) (.cons (by repeat ((conv => arg 2; whnf); first | with_reducible exact .here | ((with_reducible refine Del.hereC ?_); rfl) | ((with_reducible refine Del.hereS ?_ ?_ ?_) <;> rfl) | exact .here | apply Del.there)) (.nil))) ?_
            rintro _ _ ⟨_, ⟨la1, lc1, fs1, rfl, rfl, hm1⟩, rfl⟩
            refine gp_eff rfl (s_call (check_c (A := N) (A2 := factsM la1 lc1 fs1) (hs := [10, 11]) (ds := [10, 11]) (FS := (fs.map fun x : FactV => x.f)) ⟨ah, ch, ad, cd, mx, rfl, hrd⟩ (by decide) hm1 (fun B w h => factsM_rd h) (maps_ok hok) (by rw [List.length_map]; omega)) (.cons (by repeat ((conv => arg 2; whnf); first | with_reducible exact .here | ((with_reducible refine Del.hereC ?_); rfl) | ((with_reducible refine Del.hereS ?_ ?_ ?_) <;> rfl) | exact .here | apply Del.there)) (.cons (by repeat ((conv => arg 2; whnf); first | with_reducible exact .here | ((with_reducible refine Del.hereC ?_); rfl) | ((with_reducible refine Del.hereS ?_ ?_ ?_) <;> rfl) | exact .here | apply Del.there)) (.nil)))) ?_
            rintro _ _ ⟨_, ⟨rfl, rfl⟩, rfl⟩
            refine gp_ev rfl (e_fi Try.underlying34 rfl Try.underlying3 rfl rfl) ?_
            refine gp_ev rfl ((e_ne rfl rfl).to (v' := .bool true) (congrArg Value.bool (by rw [decide_eq_false (conns_odd (f := x.f) (List.mem_map.2 ⟨x, List.mem_of_getElem? hx, rfl⟩) (by omega))]; rfl))) ?_
            refine gp_ev rfl (e_as) ?_
            refine gp_nil ?_
            refine gc_ret ?_
            exact ret1 (v := .bool true) (L1 := [A]) rfl (by (conv => lhs; whnf); try rfl) ⟨rfl, rfl⟩ (fun _ h => h.fin (by repeat ((conv => arg 1; whnf); (conv => arg 2; whnf); first | with_reducible exact .done | exact Fin.all _ | refine .cons (by repeat ((conv => arg 2; whnf); first | with_reducible exact .here | ((with_reducible refine Del.hereC ?_); rfl) | ((with_reducible refine Del.hereS ?_ ?_ ?_) <;> rfl) | exact .here | apply Del.there)) ?_ | refine .drop ?_)))
          · skip
            refine gc_skip ?_
            have h01 : x.f.conn = 0 ∨ x.f.conn = 1 := by omega
            rcases h01 with hcq | hcq
            · skip
              refine gc_draw (D := [sown 43 8 (.slice la ((fs.take i).filter c0).length lc) ((fs.take i).filter c0).length (fcells ((fs.take i).filter c0))]) (fin := some 19) (plan := [(true, 0), (true, 1), (true, 2), (true, 3), (true, 4), (true, 5), (true, 6), (true, 7), (true, 8), (true, 9), (true, 10), (true, 11), (true, 12), (true, 13), (true, 14), (true, 15), (false, 16), (false, 17), (true, 18), (false, 19)]) rfl (by kernel_rfl) (by kernel_rfl) rfl (.cons (by repeat ((conv => arg 2; whnf); first | with_reducible exact .here | ((with_reducible refine Del.hereC ?_); rfl) | ((with_reducible refine Del.hereS ?_ ?_ ?_) <;> rfl) | exact .here | apply Del.there)) .nil) ?_
              refine gp_ev rfl (e_mv) ?_
              refine gp_ev rfl (e_mv) ?_
              refine gp_ev rfl (e_iaA (q := i) Try.underlying26 Try.sizeOf43 rfl rfl rfl (by omega)) ?_
              refine gp_ev rfl (e_faA Try.underlying43 rfl rfl Try.sizeOf3) ?_
              refine gp_ev rfl ((e_ldc (v := .int .i64 x.f.conn) Try.underlying3 rfl (fun B w h => (hfs B w ((h.fin (L1 := [A]) (F := F) (by repeat ((conv => arg 1; whnf); (conv => arg 2; whnf); first | with_reducible exact .done | exact Fin.all _ | refine .cons (by repeat ((conv => arg 2; whnf); first | with_reducible exact .here | ((with_reducible refine Del.hereC ?_); rfl) | ((with_reducible refine Del.hereS ?_ ?_ ?_) <;> rfl) | exact .here | apply Del.there)) ?_ | refine .drop ?_))).left (L1 := [A]))).2.1 p rfl _ _ hx 1 _ rfl)).to (v' := .int .i64 0) (congrArg _ hcq)) ?_
              refine gp_ev rfl (e_mv) ?_
              refine gp_ev rfl (e_mv) ?_
              refine gp_ev rfl (e_iaA (q := i) Try.underlying26 Try.sizeOf43 rfl rfl rfl (by omega)) ?_
              refine gp_ev rfl (e_faA Try.underlying43 rfl rfl Try.sizeOf3) ?_
              refine gp_ev rfl ((e_ldc (v := .int .i64 x.f.conn) Try.underlying3 rfl (fun B w h => (hfs B w ((h.fin (L1 := [A]) (F := F) (by repeat ((conv => arg 1; whnf); (conv => arg 2; whnf); first | with_reducible exact .done | exact Fin.all _ | refine .cons (by repeat ((conv => arg 2; whnf); first | with_reducible exact .here | ((with_reducible refine Del.hereC ?_); rfl) | ((with_reducible refine Del.hereS ?_ ?_ ?_) <;> rfl) | exact .here | apply Del.there)) ?_ | refine .drop ?_))).left (L1 := [A]))).2.1 p rfl _ _ hx 1 _ rfl)).to (v' := .int .i64 0) (congrArg _ hcq)) ?_
              refine gp_ev rfl (e_iap (o := 0) (q := 0) Try.underlying55 Try.sizeOf26 rfl rfl rfl (by decide) rfl) ?_
              refine gp_ev rfl (e_ld Try.underlying26 rfl (by repeat ((conv => arg 2; whnf); first | with_reducible exact .here | ((with_reducible refine Del.hereC ?_); rfl) | ((with_reducible refine Del.hereS ?_ ?_ ?_) <;> rfl) | exact .here | apply Del.there)) rfl) ?_
              refine gp_ev rfl (e_mv) ?_
              refine gp_ev rfl (e_mv) ?_
              refine gp_ev rfl (e_iaA (q := i) Try.underlying26 Try.sizeOf43 rfl rfl rfl (by omega)) ?_
              refine gp_ev rfl (e_ldAc (xs := x.cells) Try.underlying43 rfl Try.sizeOf43 rfl (fun B w h => (hfs B w ((h.fin (L1 := [A]) (F := F) (by repeat ((conv => arg 1; whnf); (conv => arg 2; whnf); first | with_reducible exact .done | exact Fin.all _ | refine .cons (by repeat ((conv => arg 2; whnf); first | with_reducible exact .here | ((with_reducible refine Del.hereC ?_); rfl) | ((with_reducible refine Del.hereS ?_ ?_ ?_) <;> rfl) | exact .here | apply Del.there)) ?_ | refine .drop ?_))).left (L1 := [A]))).2.1 p rfl _ _ hx)) ?_
              refine gp_eff rfl (s_bs1 (us := x.cells) Try.underlying26 Try.sizeOf43 Try.zeroValue43 rfl) ?_
              rintro _ _ ⟨b55, rfl, rfl⟩
              refine gp_eff rfl (s_ap (bytes := 72) (k := 8) Try.underlying26 info43 rfl rfl rfl rfl (by decide) rfl rfl (by repeat ((conv => arg 2; whnf); first | with_reducible exact .here | ((with_reducible refine Del.hereC ?_); rfl) | ((with_reducible refine Del.hereS ?_ ?_ ?_) <;> rfl) | exact .here | apply Del.there)) (fun B w h => h.rdsk0 (by repeat ((conv => arg 2; whnf); first | with_reducible exact .here | ((with_reducible refine Del.hereC ?_); rfl) | ((with_reducible refine Del.hereS ?_ ?_ ?_) <;> rfl) | exact .here | apply Del.there)) rfl) (fun u hu => fcells_one [x] u (by simpa [fcells] using hu)) (by have h0 := List.length_filter_le c0 (fs.take i); have h1 := List.length_filter_le c1 (fs.take i); rw [List.length_take] at h0 h1; omega) (by have h0 := List.length_filter_le c0 (fs.take i); have h1 := List.length_filter_le c1 (fs.take i); rw [List.length_take] at h0 h1; unfold maxLen; omega)) ?_
              rintro _ _ ⟨la2, lc2, rfl, rfl, hn2⟩
              refine gp_ev rfl (e_iap (o := 0) (q := 0) Try.underlying55 Try.sizeOf26 rfl rfl rfl (by decide) rfl) ?_
              refine gp_fin rfl (s_st Try.sizeOf26 rfl (by repeat ((conv => arg 3; whnf); first | with_reducible exact .here | apply Turn.there))) ?_
              rintro _ _ ⟨rfl, rfl⟩
              refine gp_nil0 ?_
              refine gc_region ?_
              refine g_ev (e_mv) ?_
              refine g_ev ((e_addw rfl rfl).to (v' := .int .i64 ((i + 1 : Nat) : Int)) (congrArg _ (wrapN (by omega) (by omega)))) ?_
              refine g_ev (e_as) ?_
              refine g_nil ?_
              have hq0 : (fs.take (i + 1)).filter c0 = ((fs.take i).filter c0) ++ [x] := by rw [List.take_add_one, hx, List.filter_append]; simp [c0, hcq]
              have hq1 : (fs.take (i + 1)).filter c1 = ((fs.take i).filter c1) := by rw [List.take_add_one, hx, List.filter_append]; simp [c1, hcq]
              refine Exists.intro ((i + 1, la2, lc2, lb, ld)) (And.intro ⟨(by show i + 1 ≤ _; omega), (by show ∀ y ∈ fs.take (i + 1), _; intro y hy; rw [List.take_add_one, hx] at hy; exact (List.mem_append.1 hy).elim (hall y) (fun h => by have h0 := List.mem_singleton.1 h; subst h0; omega)), (by (conv => lhs; whnf); try rfl), (by (conv => lhs; whnf); try rfl), (by (conv => lhs; whnf); try rfl), (by (conv => lhs; whnf); try rfl), (fun w h => by show Sat B w (blk b3 25 [.slice ah [10, 11].length ch, .slice ad [10, 11].length cd, .int .u32 mx] :: blk b4 55 [.slice la2 ((fs.take (i + 1)).filter c0).length lc2, .slice lb ((fs.take (i + 1)).filter c1).length ld] :: sown 43 8 (.slice la2 ((fs.take (i + 1)).filter c0).length lc2) ((fs.take (i + 1)).filter c0).length (fcells ((fs.take (i + 1)).filter c0)) :: sown 43 8 (.slice lb ((fs.take (i + 1)).filter c1).length ld) ((fs.take (i + 1)).filter c1).length (fcells ((fs.take (i + 1)).filter c1)) :: N :: A :: F); rw [hq0, hq1, List.length_append, fcells_snoc]; exact h.fin (L1 := [blk b3 25 [.slice ah [10, 11].length ch, .slice ad [10, 11].length cd, .int .u32 mx], blk b4 55 [.slice la2 (((fs.take i).filter c0).length + 1) lc2, .slice lb ((fs.take i).filter c1).length ld], sown 43 8 (.slice la2 (((fs.take i).filter c0).length + 1) lc2) (((fs.take i).filter c0).length + 1) (fcells ((fs.take i).filter c0) ++ x.cells), sown 43 8 (.slice lb ((fs.take i).filter c1).length ld) ((fs.take i).filter c1).length (fcells ((fs.take i).filter c1)), N, A]) (F := F) (by repeat ((conv => arg 1; whnf); (conv => arg 2; whnf); first | with_reducible exact .done | exact Fin.all _ | refine .cons (by repeat ((conv => arg 2; whnf); first | with_reducible exact .here | ((with_reducible refine Del.hereC ?_); rfl) | ((with_reducible refine Del.hereS ?_ ?_ ?_) <;> rfl) | exact .here | apply Del.there)) ?_ | refine .drop ?_)))⟩ (by show _ - (i + 1) < _ - i; omega))
            · skip
              refine gc_draw (D := [sown 43 8 (.slice lb ((fs.take i).filter c1).length ld) ((fs.take i).filter c1).length (fcells ((fs.take i).filter c1))]) (fin := some 19) (plan := [(true, 0), (true, 1), (true, 2), (true, 3), (true, 4), (true, 5), (true, 6), (true, 7), (true, 8), (true, 9), (true, 10), (true, 11), (true, 12), (true, 13), (true, 14), (true, 15), (false, 16), (false, 17), (true, 18), (false, 19)]) rfl (by kernel_rfl) (by kernel_rfl) rfl (.cons (by repeat ((conv => arg 2; whnf); first | with_reducible exact .here | ((with_reducible refine Del.hereC ?_); rfl) | ((with_reducible refine Del.hereS ?_ ?_ ?_) <;> rfl) | exact .here | apply Del.there)) .nil) ?_
              refine gp_ev rfl (e_mv) ?_
              refine gp_ev rfl (e_mv) ?_
              refine gp_ev rfl (e_iaA (q := i) Try.underlying26 Try.sizeOf43 rfl rfl rfl (by omega)) ?_
              refine gp_ev rfl (e_faA Try.underlying43 rfl rfl Try.sizeOf3) ?_
              refine gp_ev rfl ((e_ldc (v := .int .i64 x.f.conn) Try.underlying3 rfl (fun B w h => (hfs B w ((h.fin (L1 := [A]) (F := F) (by repeat ((conv => arg 1; whnf); (conv => arg 2; whnf); first | with_reducible exact .done | exact Fin.all _ | refine .cons (by repeat ((conv => arg 2; whnf); first | with_reducible exact .here | ((with_reducible refine Del.hereC ?_); rfl) | ((with_reducible refine Del.hereS ?_ ?_ ?_) <;> rfl) | exact .here | apply Del.there)) ?_ | refine .drop ?_))).left (L1 := [A]))).2.1 p rfl _ _ hx 1 _ rfl)).to (v' := .int .i64 1) (congrArg _ hcq)) ?_
              refine gp_ev rfl (e_mv) ?_
              refine gp_ev rfl (e_mv) ?_
              refine gp_ev rfl (e_iaA (q := i) Try.underlying26 Try.sizeOf43 rfl rfl rfl (by omega)) ?_
              refine gp_ev rfl (e_faA Try.underlying43 rfl rfl Try.sizeOf3) ?_
              refine gp_ev rfl ((e_ldc (v := .int .i64 x.f.conn) Try.underlying3 rfl (fun B w h => (hfs B w ((h.fin (L1 := [A]) (F := F) (by repeat ((conv => arg 1; whnf); (conv => arg 2; whnf); first | with_reducible exact .done | exact Fin.all _ | refine .cons (by repeat ((conv => arg 2; whnf); first | with_reducible exact .here | ((with_reducible refine Del.hereC ?_); rfl) | ((with_reducible refine Del.hereS ?_ ?_ ?_) <;> rfl) | exact .here | apply Del.there)) ?_ | refine .drop ?_))).left (L1 := [A]))).2.1 p rfl _ _ hx 1 _ rfl)).to (v' := .int .i64 1) (congrArg _ hcq)) ?_
              refine gp_ev rfl (e_iap (o := 1) (q := 1) Try.underlying55 Try.sizeOf26 rfl rfl rfl (by decide) rfl) ?_
              refine gp_ev rfl (e_ld Try.underlying26 rfl (by repeat ((conv => arg 2; whnf); first | with_reducible exact .here | ((with_reducible refine Del.hereC ?_); rfl) | ((with_reducible refine Del.hereS ?_ ?_ ?_) <;> rfl) | exact .here | apply Del.there)) rfl) ?_
              refine gp_ev rfl (e_mv) ?_
              refine gp_ev rfl (e_mv) ?_
              refine gp_ev rfl (e_iaA (q := i) Try.underlying26 Try.sizeOf43 rfl rfl rfl (by omega)) ?_
              refine gp_ev rfl (e_ldAc (xs := x.cells) Try.underlying43 rfl Try.sizeOf43 rfl (fun B w h => (hfs B w ((h.fin (L1 := [A]) (F := F) (by repeat ((conv => arg 1; whnf); (conv => arg 2; whnf); first | with_reducible exact .done | exact Fin.all _ | refine .cons (by repeat ((conv => arg 2; whnf); first | with_reducible exact .here | ((with_reducible refine Del.hereC ?_); rfl) | ((with_reducible refine Del.hereS ?_ ?_ ?_) <;> rfl) | exact .here | apply Del.there)) ?_ | refine .drop ?_))).left (L1 := [A]))).2.1 p rfl _ _ hx)) ?_
              refine gp_eff rfl (s_bs1 (us := x.cells) Try.underlying26 Try.sizeOf43 Try.zeroValue43 rfl) ?_
              rintro _ _ ⟨b55, rfl, rfl⟩
              refine gp_eff rfl (s_ap (bytes := 72) (k := 8) Try.underlying26 info43 rfl rfl rfl rfl (by decide) rfl rfl (by repeat ((conv => arg 2; whnf); first | with_reducible exact .here | ((with_reducible refine Del.hereC ?_); rfl) | ((with_reducible refine Del.hereS ?_ ?_ ?_) <;> rfl) | exact .here | apply Del.there)) (fun B w h => h.rdsk0 (by repeat ((conv => arg 2; whnf); first | with_reducible exact .here | ((with_reducible refine Del.hereC ?_); rfl) | ((with_reducible refine Del.hereS ?_ ?_ ?_) <;> rfl) | exact .here | apply Del.there)) rfl) (fun u hu => fcells_one [x] u (by simpa [fcells] using hu)) (by have h0 := List.length_filter_le c0 (fs.take i); have h1 := List.length_filter_le c1 (fs.take i); rw [List.length_take] at h0 h1; omega) (by have h0 := List.length_filter_le c0 (fs.take i); have h1 := List.length_filter_le c1 (fs.take i); rw [List.length_take] at h0 h1; unfold maxLen; omega)) ?_
              rintro _ _ ⟨la2, lc2, rfl, rfl, hn2⟩
              refine gp_ev rfl (e_iap (o := 1) (q := 1) Try.underlying55 Try.sizeOf26 rfl rfl rfl (by decide) rfl) ?_
              refine gp_fin rfl (s_st Try.sizeOf26 rfl (by repeat ((conv => arg 3; whnf); first | with_reducible exact .here | apply Turn.there))) ?_
              rintro _ _ ⟨rfl, rfl⟩
              refine gp_nil0 ?_
              refine gc_region ?_
              refine g_ev (e_mv) ?_
              refine g_ev ((e_addw rfl rfl).to (v' := .int .i64 ((i + 1 : Nat) : Int)) (congrArg _ (wrapN (by omega) (by omega)))) ?_
              refine g_ev (e_as) ?_
              refine g_nil ?_
              have hq0 : (fs.take (i + 1)).filter c0 = ((fs.take i).filter c0) := by rw [List.take_add_one, hx, List.filter_append]; simp [c0, hcq]
              have hq1 : (fs.take (i + 1)).filter c1 = ((fs.take i).filter c1) ++ [x] := by rw [List.take_add_one, hx, List.filter_append]; simp [c1, hcq]
              refine Exists.intro ((i + 1, la, lc, la2, lc2)) (And.intro ⟨(by show i + 1 ≤ _; omega), (by show ∀ y ∈ fs.take (i + 1), _; intro y hy; rw [List.take_add_one, hx] at hy; exact (List.mem_append.1 hy).elim (hall y) (fun h => by have h0 := List.mem_singleton.1 h; subst h0; omega)), (by (conv => lhs; whnf); try rfl), (by (conv => lhs; whnf); try rfl), (by (conv => lhs; whnf); try rfl), (by (conv => lhs; whnf); try rfl), (fun w h => by show Sat B w (blk b3 25 [.slice ah [10, 11].length ch, .slice ad [10, 11].length cd, .int .u32 mx] :: blk b4 55 [.slice la ((fs.take (i + 1)).filter c0).length lc, .slice la2 ((fs.take (i + 1)).filter c1).length lc2] :: sown 43 8 (.slice la ((fs.take (i + 1)).filter c0).length lc) ((fs.take (i + 1)).filter c0).length (fcells ((fs.take (i + 1)).filter c0)) :: sown 43 8 (.slice la2 ((fs.take (i + 1)).filter c1).length lc2) ((fs.take (i + 1)).filter c1).length (fcells ((fs.take (i + 1)).filter c1)) :: N :: A :: F); rw [hq0, hq1, List.length_append, fcells_snoc]; exact h.fin (L1 := [blk b3 25 [.slice ah [10, 11].length ch, .slice ad [10, 11].length cd, .int .u32 mx], blk b4 55 [.slice la ((fs.take i).filter c0).length lc, .slice la2 (((fs.take i).filter c1).length + 1) lc2], sown 43 8 (.slice la ((fs.take i).filter c0).length lc) ((fs.take i).filter c0).length (fcells ((fs.take i).filter c0)), sown 43 8 (.slice la2 (((fs.take i).filter c1).length + 1) lc2) (((fs.take i).filter c1).length + 1) (fcells ((fs.take i).filter c1) ++ x.cells), N, A]) (F := F) (by repeat ((conv => arg 1; whnf); (conv => arg 2; whnf); first | with_reducible exact .done | exact Fin.all _ | refine .cons (by repeat ((conv => arg 2; whnf); first | with_reducible exact .here | ((with_reducible refine Del.hereC ?_); rfl) | ((with_reducible refine Del.hereS ?_ ?_ ?_) <;> rfl) | exact .here | apply Del.there)) ?_ | refine .drop ?_)))⟩ (by show _ - (i + 1) < _ - i; omega))
      · skip
        refine gc_exit ?_
        refine gc_seq ?_
        have hcp : ((checkP (fs.map fun x : FactV => x.f)).r = 0 ↔ (checkP (((fs.take i).filter c0).map fun x : FactV => x.f)).r = 0 ∧ (checkP (((fs.take i).filter c1).map fun x : FactV => x.f)).r = 0) := by
          rw [List.take_of_length_le (by omega)] at hall ⊢
          exact conns_pairV fs hall
        refine gc_draw (D := [sown 43 8 (.slice la ((fs.take i).filter c0).length lc) ((fs.take i).filter c0).length (fcells ((fs.take i).filter c0)), sown 43 8 (.slice lb ((fs.take i).filter c1).length ld) ((fs.take i).filter c1).length (fcells ((fs.take i).filter c1)), N, A]) (fin := none) (plan := [(true, 0), (true, 1), (true, 2), (false, 3), (false, 4), (true, 5), (true, 6), (true, 7), (true, 8), (true, 9), (true, 10), (false, 11), (false, 12), (true, 13), (true, 14), (true, 15), (true, 16)]) rfl (by kernel_rfl) (by kernel_rfl) rfl (.cons (by repeat ((conv => arg 2; whnf); first | with_reducible exact .here | ((with_reducible refine Del.hereC ?_); rfl) | ((with_reducible refine Del.hereS ?_ ?_ ?_) <;> rfl) | exact .here | apply Del.there)) (.cons (by repeat ((conv => arg 2; whnf); first | with_reducible exact .here | ((with_reducible refine Del.hereC ?_); rfl) | ((with_reducible refine Del.hereS ?_ ?_ ?_) <;> rfl) | exact .here | apply Del.there)) (.cons (by repeat ((conv => arg 2; whnf); first | with_reducible exact .here | ((with_reducible refine Del.hereC ?_); rfl) | ((with_reducible refine Del.hereS ?_ ?_ ?_) <;> rfl) | exact .here | apply Del.there)) (.cons (by repeat ((conv => arg 2; whnf); first | with_reducible exact .here | ((with_reducible refine Del.hereC ?_); rfl) | ((with_reducible refine Del.hereS ?_ ?_ ?_) <;> rfl) | exact .here | apply Del.there)) (.nil))))) ?_
        refine gp_ev rfl (e_ldA Try.underlying25 rfl (by repeat ((conv => arg 2; whnf); first | with_reducible exact .here | ((with_reducible refine Del.hereC ?_); rfl) | ((with_reducible refine Del.hereS ?_ ?_ ?_) <;> rfl) | exact .here | apply Del.there)) Try.sizeOf25 (by simp)) ?_
        refine gp_ev rfl (e_iap (o := 0) (q := 0) Try.underlying55 Try.sizeOf26 rfl rfl rfl (by decide) rfl) ?_
        refine gp_ev rfl (e_ld Try.underlying26 rfl (by repeat ((conv => arg 2; whnf); first | with_reducible exact .here | ((with_reducible refine Del.hereC ?_); rfl) | ((with_reducible refine Del.hereS ?_ ?_ ?_) <;> rfl) | exact .here | apply Del.there)) rfl) ?_
        refine gp_eff rfl (s_call (copied_own (es := ((fs.take i).filter c0)) hfs (fun x hx => List.mem_of_mem_take (List.mem_filter.1 hx).1) hok (by have := List.length_filter_le c0 (fs.take i); rw [List.length_take] at this; omega)) (.cons (by repeat ((conv => arg 2; whnf); first | with_reducible exact .here | ((with_reducible refine Del.hereC ?_); rfl) | ((with_reducible refine Del.hereS ?_ ?_ ?_) <;> rfl) | exact .here | apply Del.there)) (.cons (by repeat ((conv => arg 2; whnf); first | with_reducible exact .here | ((with_reducible refine Del.hereC ?_); rfl) | ((with_reducible refine Del.hereS ?_ ?_ ?_) <;> rfl) | exact .here | apply Del.there)) (.nil)))) ?_
        rintro _ _ ⟨_, ⟨la2, lc2, fs2, rfl, rfl, hm2⟩, rfl⟩
        refine gp_eff rfl (s_call (check_c (A := N) (A2 := factsM la2 lc2 fs2) (hs := [10, 11]) (ds := [10, 11]) (FS := (((fs.take i).filter c0).map fun x : FactV => x.f)) ⟨ah, ch, ad, cd, mx, rfl, hrd⟩ (by decide) hm2 (fun B w h => factsM_rd h) (fun f hf => (by obtain ⟨x, hx, rfl⟩ := List.mem_map.1 hf; exact hok x (List.mem_of_mem_take (List.mem_filter.1 hx).1))) (by rw [List.length_map]; have := List.length_filter_le c0 (fs.take i); rw [List.length_take] at this; omega)) (.cons (by repeat ((conv => arg 2; whnf); first | with_reducible exact .here | ((with_reducible refine Del.hereC ?_); rfl) | ((with_reducible refine Del.hereS ?_ ?_ ?_) <;> rfl) | exact .here | apply Del.there)) (.cons (by repeat ((conv => arg 2; whnf); first | with_reducible exact .here | ((with_reducible refine Del.hereC ?_); rfl) | ((with_reducible refine Del.hereS ?_ ?_ ?_) <;> rfl) | exact .here | apply Del.there)) (.nil)))) ?_
        rintro _ _ ⟨_, ⟨rfl, rfl⟩, rfl⟩
        refine gp_ev rfl (e_fi Try.underlying34 rfl Try.underlying3 rfl rfl) ?_
        refine gp_ev rfl (e_eq rfl rfl) ?_
        refine gp_ev rfl (e_mv) ?_
        first | refine gp_dec 65 rfl (fun c65 => ?_) (fun c65 => ?_) | refine gp_ndec 65 rfl (fun c65 => ?_) (fun c65 => ?_) | refine gp_bool 65 rfl (fun c65 => ?_) (fun c65 => ?_)
        · skip
          refine gp_ev rfl (e_ldA Try.underlying25 rfl (by repeat ((conv => arg 2; whnf); first | with_reducible exact .here | ((with_reducible refine Del.hereC ?_); rfl) | ((with_reducible refine Del.hereS ?_ ?_ ?_) <;> rfl) | exact .here | apply Del.there)) Try.sizeOf25 (by simp)) ?_
          refine gp_ev rfl (e_iap (o := 1) (q := 1) Try.underlying55 Try.sizeOf26 rfl rfl rfl (by decide) rfl) ?_
          refine gp_ev rfl (e_ld Try.underlying26 rfl (by repeat ((conv => arg 2; whnf); first | with_reducible exact .here | ((with_reducible refine Del.hereC ?_); rfl) | ((with_reducible refine Del.hereS ?_ ?_ ?_) <;> rfl) | exact .here | apply Del.there)) rfl) ?_
          refine gp_eff rfl (s_call (copied_own (es := ((fs.take i).filter c1)) hfs (fun x hx => List.mem_of_mem_take (List.mem_filter.1 hx).1) hok (by have := List.length_filter_le c1 (fs.take i); rw [List.length_take] at this; omega)) (.cons (by repeat ((conv => arg 2; whnf); first | with_reducible exact .here | ((with_reducible refine Del.hereC ?_); rfl) | ((with_reducible refine Del.hereS ?_ ?_ ?_) <;> rfl) | exact .here | apply Del.there)) (.cons (by repeat ((conv => arg 2; whnf); first | with_reducible exact .here | ((with_reducible refine Del.hereC ?_); rfl) | ((with_reducible refine Del.hereS ?_ ?_ ?_) <;> rfl) | exact .here | apply Del.there)) (.nil)))) ?_
          rintro _ _ ⟨_, ⟨la3, lc3, fs3, rfl, rfl, hm3⟩, rfl⟩
          refine gp_eff rfl (s_call (check_c (A := N) (A2 := factsM la3 lc3 fs3) (hs := [10, 11]) (ds := [10, 11]) (FS := (((fs.take i).filter c1).map fun x : FactV => x.f)) ⟨ah, ch, ad, cd, mx, rfl, hrd⟩ (by decide) hm3 (fun B w h => factsM_rd h) (fun f hf => (by obtain ⟨x, hx, rfl⟩ := List.mem_map.1 hf; exact hok x (List.mem_of_mem_take (List.mem_filter.1 hx).1))) (by rw [List.length_map]; have := List.length_filter_le c1 (fs.take i); rw [List.length_take] at this; omega)) (.cons (by repeat ((conv => arg 2; whnf); first | with_reducible exact .here | ((with_reducible refine Del.hereC ?_); rfl) | ((with_reducible refine Del.hereS ?_ ?_ ?_) <;> rfl) | exact .here | apply Del.there)) (.cons (by repeat ((conv => arg 2; whnf); first | with_reducible exact .here | ((with_reducible refine Del.hereC ?_); rfl) | ((with_reducible refine Del.hereS ?_ ?_ ?_) <;> rfl) | exact .here | apply Del.there)) (.nil)))) ?_
          rintro _ _ ⟨_, ⟨rfl, rfl⟩, rfl⟩
          refine gp_ev rfl (e_fi Try.underlying34 rfl Try.underlying3 rfl rfl) ?_
          refine gp_ev rfl (e_eq rfl rfl) ?_
          refine gp_ev rfl (e_pk rfl) ?_
          refine gp_ev rfl (e_as) ?_
          refine gp_nil ?_
          refine gc_seq ?_
          refine gc_draw (D := [N, A]) (fin := none) (plan := [(true, 0), (true, 1), (true, 6), (false, 2), (false, 3), (true, 4), (true, 5), (true, 7), (true, 8)]) rfl (by kernel_rfl) (by kernel_rfl) rfl (.cons (by repeat ((conv => arg 2; whnf); first | with_reducible exact .here | ((with_reducible refine Del.hereC ?_); rfl) | ((with_reducible refine Del.hereS ?_ ?_ ?_) <;> rfl) | exact .here | apply Del.there)) (.cons (by repeat ((conv => arg 2; whnf); first | with_reducible exact .here | ((with_reducible refine Del.hereC ?_); rfl) | ((with_reducible refine Del.hereS ?_ ?_ ?_) <;> rfl) | exact .here | apply Del.there)) (.nil))) ?_
          refine gp_ev rfl (e_ldA Try.underlying25 rfl (by repeat ((conv => arg 2; whnf); first | with_reducible exact .here | ((with_reducible refine Del.hereC ?_); rfl) | ((with_reducible refine Del.hereS ?_ ?_ ?_) <;> rfl) | exact .here | apply Del.there)) Try.sizeOf25 (by simp)) ?_
          refine gp_ev rfl (e_mv) ?_
          refine gp_ev rfl (e_mv) ?_
          refine gp_eff rfl (s_call (copied_t (fs := fs) hfs (fun h => (hsn h).2) hok (by first | omega | (simp only [List.length_take]; omega))) (.cons (by repeat ((conv => arg 2; whnf); first | with_reducible exact .here | ((with_reducible refine Del.hereC ?_); rfl) | ((with_reducible refine Del.hereS ?_ ?_ ?_) <;> rfl) | exact .here | apply Del.there)) (.nil))) ?_
          rintro _ _ ⟨_, ⟨la1, lc1, fs1, rfl, rfl, hm1⟩, rfl⟩
          refine gp_eff rfl (s_call (check_c (A := N) (A2 := factsM la1 lc1 fs1) (hs := [10, 11]) (ds := [10, 11]) (FS := (fs.map fun x : FactV => x.f)) ⟨ah, ch, ad, cd, mx, rfl, hrd⟩ (by decide) hm1 (fun B w h => factsM_rd h) (maps_ok hok) (by rw [List.length_map]; omega)) (.cons (by repeat ((conv => arg 2; whnf); first | with_reducible exact .here | ((with_reducible refine Del.hereC ?_); rfl) | ((with_reducible refine Del.hereS ?_ ?_ ?_) <;> rfl) | exact .here | apply Del.there)) (.cons (by repeat ((conv => arg 2; whnf); first | with_reducible exact .here | ((with_reducible refine Del.hereC ?_); rfl) | ((with_reducible refine Del.hereS ?_ ?_ ?_) <;> rfl) | exact .here | apply Del.there)) (.nil)))) ?_
          rintro _ _ ⟨_, ⟨rfl, rfl⟩, rfl⟩
          refine gp_ev rfl (e_fi Try.underlying34 rfl Try.underlying3 rfl rfl) ?_
          refine gp_ev rfl (e_eq rfl rfl) ?_
          refine gp_ev rfl ((e_eqb Try.underlying4 rfl rfl).to (v' := .bool true) (congrArg Value.bool (by rw [beq_iff_eq, decide_eq_decide]; simp [hcp, c65]))) ?_
          refine gp_ev rfl (e_as) ?_
          refine gp_nil ?_
          refine gc_ret ?_
          exact ret1 (v := .bool true) (L1 := [A]) rfl (by (conv => lhs; whnf); try rfl) ⟨rfl, rfl⟩ (fun _ h => h.fin (by repeat ((conv => arg 1; whnf); (conv => arg 2; whnf); first | with_reducible exact .done | exact Fin.all _ | refine .cons (by repeat ((conv => arg 2; whnf); first | with_reducible exact .here | ((with_reducible refine Del.hereC ?_); rfl) | ((with_reducible refine Del.hereS ?_ ?_ ?_) <;> rfl) | exact .here | apply Del.there)) ?_ | refine .drop ?_)))
        · skip
          refine gp_not rfl ?_
          refine gp_not rfl ?_
          refine gp_not rfl ?_
          refine gp_notf rfl ?_
          refine gp_notf rfl ?_
          refine gp_not rfl ?_
          refine gp_not rfl ?_
          refine gp_ev rfl (e_pk rfl) ?_
          refine gp_ev rfl (e_as) ?_
          refine gp_nil ?_
          refine gc_seq ?_
          refine gc_draw (D := [N, A]) (fin := none) (plan := [(true, 0), (true, 1), (true, 6), (false, 2), (false, 3), (true, 4), (true, 5), (true, 7), (true, 8)]) rfl (by kernel_rfl) (by kernel_rfl) rfl (.cons (by repeat ((conv => arg 2; whnf); first | with_reducible exact .here | ((with_reducible refine Del.hereC ?_); rfl) | ((with_reducible refine Del.hereS ?_ ?_ ?_) <;> rfl) | exact .here | apply Del.there)) (.cons (by repeat ((conv => arg 2; whnf); first | with_reducible exact .here | ((with_reducible refine Del.hereC ?_); rfl) | ((with_reducible refine Del.hereS ?_ ?_ ?_) <;> rfl) | exact .here | apply Del.there)) (.nil))) ?_
          refine gp_ev rfl (e_ldA Try.underlying25 rfl (by repeat ((conv => arg 2; whnf); first | with_reducible exact .here | ((with_reducible refine Del.hereC ?_); rfl) | ((with_reducible refine Del.hereS ?_ ?_ ?_) <;> rfl) | exact .here | apply Del.there)) Try.sizeOf25 (by simp)) ?_
          refine gp_ev rfl (e_mv) ?_
          refine gp_ev rfl (e_mv) ?_
          refine gp_eff rfl (s_call (copied_t (fs := fs) hfs (fun h => (hsn h).2) hok (by first | omega | (simp only [List.length_take]; omega))) (.cons (by repeat ((conv => arg 2; whnf); first | with_reducible exact .here | ((with_reducible refine Del.hereC ?_); rfl) | ((with_reducible refine Del.hereS ?_ ?_ ?_) <;> rfl) | exact .here | apply Del.there)) (.nil))) ?_
          rintro _ _ ⟨_, ⟨la1, lc1, fs1, rfl, rfl, hm1⟩, rfl⟩
          refine gp_eff rfl (s_call (check_c (A := N) (A2 := factsM la1 lc1 fs1) (hs := [10, 11]) (ds := [10, 11]) (FS := (fs.map fun x : FactV => x.f)) ⟨ah, ch, ad, cd, mx, rfl, hrd⟩ (by decide) hm1 (fun B w h => factsM_rd h) (maps_ok hok) (by rw [List.length_map]; omega)) (.cons (by repeat ((conv => arg 2; whnf); first | with_reducible exact .here | ((with_reducible refine Del.hereC ?_); rfl) | ((with_reducible refine Del.hereS ?_ ?_ ?_) <;> rfl) | exact .here | apply Del.there)) (.cons (by repeat ((conv => arg 2; whnf); first | with_reducible exact .here | ((with_reducible refine Del.hereC ?_); rfl) | ((with_reducible refine Del.hereS ?_ ?_ ?_) <;> rfl) | exact .here | apply Del.there)) (.nil)))) ?_
          rintro _ _ ⟨_, ⟨rfl, rfl⟩, rfl⟩
          refine gp_ev rfl (e_fi Try.underlying34 rfl Try.underlying3 rfl rfl) ?_
          refine gp_ev rfl (e_eq rfl rfl) ?_
          refine gp_ev rfl ((e_eqb Try.underlying4 rfl rfl).to (v' := .bool true) (congrArg Value.bool (by rw [beq_iff_eq, decide_eq_false_iff_not]; simp [hcp, c65]))) ?_
          refine gp_ev rfl (e_as) ?_
          refine gp_nil ?_
          refine gc_ret ?_
          exact ret1 (v := .bool true) (L1 := [A]) rfl (by (conv => lhs; whnf); try rfl) ⟨rfl, rfl⟩ (fun _ h => h.fin (by repeat ((conv => arg 1; whnf); (conv => arg 2; whnf); first | with_reducible exact .done | exact Fin.all _ | refine .cons (by repeat ((conv => arg 2; whnf); first | with_reducible exact .here | ((with_reducible refine Del.hereC ?_); rfl) | ((with_reducible refine Del.hereS ?_ ?_ ?_) <;> rfl) | exact .here | apply Del.there)) ?_ | refine .drop ?_)))

end Go.Proofs.Ythjimddhnlmlhaa
