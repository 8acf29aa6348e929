/- The walk of GhostJudges; no conditions. -/
import Derived.Test.YthjimddhnlmlhaaRel
import Derived.Test.YthjimddhnlmlhaaVcMore
namespace Go.Proofs.Ythjimddhnlmlhaa
open Go.Vc
theorem pl1025 : plOK Try.prog 25 #[(0, 1), (1, 1), (2, 1)] := by intro fs h w; rw [Try.underlying25] at h; cases h; simp
theorem pl1034 : plOK Try.prog 34 #[(0, 1), (1, 1)] := by intro fs h w; rw [Try.underlying34] at h; cases h; simp
theorem pl1043 : plOK Try.prog 43 #[(0, 1), (1, 1), (2, 1), (3, 1), (4, 1), (5, 1), (6, 1), (7, 1)] := by intro fs h w; rw [Try.underlying43] at h; cases h; simp

/-- A net's lists, whole. -/
def RdNet (w : World) (a : Option Addr) (c : Nat) (ws : List Int) (ps : List Value) : Prop := Rds w 5 (.slice a ws.length c) ws.length ps ∧ ∀ i x, ws[i]? = some x → ps[i * 5 + 3]? = some (.int .i64 x)
theorem check_n {A A2 : HProp} {nv : Value} {hs ds : List Int} (hnet : IsNet A nv hs ds) (hl : hs.length ≤ 1000) {sa : Option Addr} {sc n : Nat} {gs : List FactV} {FS : List FactS} (hn1 : gs.length = n) (hm : gs.map (·.f) = FS) (hfs : ∀ B w, Sat B w [A2] → RdFs w sa gs) (hok : ∀ f ∈ FS, f.ok) (hn : FS.length ≤ 1000000) :
    Tri Try.prog 15 #[nv, .slice sa n sc] [A, A2] (isR (.agg ⟨[.int .i64 (checkA hs ds FS).r, .int .i64 (checkA hs ds FS).ra]⟩) [A, A2]) := by
  subst hn1
  exact check_c hnet hl hm hfs hok hn
theorem RdNet.rdsW {w : World} {a : Option Addr} {c : Nat} {ws : List Int} {ps : List Value} (h : RdNet w a c ws ps) : RdsW w a ws := by
  obtain ⟨⟨_, a', c', h1, h2, h3⟩, h4⟩ := h
  cases h1
  refine ⟨fun ha => List.eq_nil_of_length_eq_zero (h2 ha).1, fun ad had i x hi => ?_⟩
  have := h3 ad had _ _ (h4 i x hi)
  rw [← Addr.add_add] at this
  exact this

theorem ncopied_t {A : HProp} {ah ad : Option Addr} {hs ds : List Int} {ch cd : Nat} {mx : Int} {ph pd : List Value} (hrd : ∀ B w, Sat B w [A] → RdNet w ah ch hs ph ∧ RdNet w ad cd ds pd) (ho1 : ∀ u ∈ ph, u.oneCell' = true) (ho2 : ∀ u ∈ pd, u.oneCell' = true) (hq1 : ∀ i x, hs[i]? = some x → ph[i * 5 + 3]? = some (.int .i64 x)) (hq2 : ∀ i x, ds[i]? = some x → pd[i * 5 + 3]? = some (.int .i64 x)) (hl1 : hs.length ≤ 1000) (hl2 : ds.length ≤ 1000) : Tri Try.prog 9 #[.agg ⟨[.slice ah hs.length ch, .slice ad ds.length cd, .int .u32 mx]⟩] [A] (fun v L => ∃ N ah2 ch2 ad2 cd2, v = .agg ⟨[.slice ah2 hs.length ch2, .slice ad2 ds.length cd2, .int .u32 mx]⟩ ∧ L = [N, A] ∧ ∀ B w, Sat B w [N] → RdsW w ah2 hs ∧ RdsW w ad2 ds) := by
  refine tri_of Try.call9 Try.func9 rfl fun B F => ?_
  refine gc_seq ?_
  refine gc_region ?_
  refine g_eff (s_bx) ?_
  rintro _ _ ⟨b1, rfl, rfl⟩
  refine g_eff (s_al Try.zeroValue25) ?_
  rintro _ _ ⟨b2, rfl, rfl⟩
  refine g_nil ?_
  refine gc_seq ?_
  refine gt_draw (D := [blk b2 25 [.slice none 0 0, .slice none 0 0, .int .u32 0], A]) (fin := none) (plan := (.q 1 (.q 2 (.q 5 (.q 6 (.q 8 (.q 9 (.b 0 (.b 3 (.b 4 (.b 7 (.q 10 (.b 11 .e .e)) .e) .e) (.b 4 (.b 3 (.b 7 (.q 10 (.b 11 .e .e)) .e) .e) .e)) (.b 4 (.b 0 (.b 3 (.b 7 (.q 10 (.b 11 .e .e)) .e) .e) .e) .e))))))))) rfl (by kernel_rfl) (by kernel_rfl) rfl (.cons (by repeat ((conv => arg 2; whnf); first | with_reducible exact .here | ((with_reducible refine Del.hereC ?_); rfl) | ((with_reducible refine Del.hereS ?_ ?_ ?_) <;> rfl) | exact .here | apply Del.there)) (.cons (by repeat ((conv => arg 2; whnf); first | with_reducible exact .here | ((with_reducible refine Del.hereC ?_); rfl) | ((with_reducible refine Del.hereS ?_ ?_ ?_) <;> rfl) | exact .here | apply Del.there)) (.nil))) ?_
  refine gt_ev rfl (e_fa Try.underlying25 rfl rfl Try.sizeOf22) ?_
  refine gt_ev rfl (e_ld Try.underlying22 rfl (by repeat ((conv => arg 2; whnf); first | with_reducible exact .here | ((with_reducible refine Del.hereC ?_); rfl) | ((with_reducible refine Del.hereS ?_ ?_ ?_) <;> rfl) | exact .here | apply Del.there)) rfl) ?_
  refine gt_ev rfl (e_fa Try.underlying25 rfl rfl Try.sizeOf22) ?_
  refine gt_ev rfl (e_ld Try.underlying22 rfl (by repeat ((conv => arg 2; whnf); first | with_reducible exact .here | ((with_reducible refine Del.hereC ?_); rfl) | ((with_reducible refine Del.hereS ?_ ?_ ?_) <;> rfl) | exact .here | apply Del.there)) rfl) ?_
  refine gt_ev rfl (e_fa Try.underlying25 rfl rfl Try.sizeOf23) ?_
  refine gt_ev rfl (e_ld Try.underlying23 rfl (by repeat ((conv => arg 2; whnf); first | with_reducible exact .here | ((with_reducible refine Del.hereC ?_); rfl) | ((with_reducible refine Del.hereS ?_ ?_ ?_) <;> rfl) | exact .here | apply Del.there)) rfl) ?_
  refine gt_b2 ?_ ?_
  · skip
    refine alt_eff rfl (s_bs0 Try.underlying22 Try.sizeOf66) ?_
    rintro _ _ ⟨b3, rfl, rfl⟩
    refine gt_b2 ?_ ?_
    · skip
      refine alt_eff rfl (s_ap0 (bytes := 40) (k := 5) Try.underlying22 info66 rfl rfl rfl rfl (by decide) rfl rfl (by repeat ((conv => arg 2; whnf); first | with_reducible exact .here | ((with_reducible refine Del.hereC ?_); rfl) | ((with_reducible refine Del.hereS ?_ ?_ ?_) <;> rfl) | exact .here | apply Del.there)) (fun B w h => (hrd B w ((h.fin (L1 := [A]) (F := []) (by repeat ((conv => arg 1; whnf); (conv => arg 2; whnf); first | with_reducible exact .done | exact Fin.all _ | refine .cons (by repeat ((conv => arg 2; whnf); first | with_reducible exact .here | ((with_reducible refine Del.hereC ?_); rfl) | ((with_reducible refine Del.hereS ?_ ?_ ?_) <;> rfl) | exact .here | apply Del.there)) ?_ | refine .drop ?_))).left (L1 := [A]))).1.1) ho1 (by omega) (by unfold maxLen; omega)) ?_
      rintro _ _ ⟨a3, c3, rfl, rfl, hn3⟩
      refine gt_eff rfl (s_bs0 Try.underlying22 Try.sizeOf66) ?_
      rintro _ _ ⟨b7, rfl, rfl⟩
      refine gt_eff rfl (s_ap0 (bytes := 40) (k := 5) Try.underlying22 info66 rfl rfl rfl rfl (by decide) rfl rfl (by repeat ((conv => arg 2; whnf); first | with_reducible exact .here | ((with_reducible refine Del.hereC ?_); rfl) | ((with_reducible refine Del.hereS ?_ ?_ ?_) <;> rfl) | exact .here | apply Del.there)) (fun B w h => (hrd B w ((h.fin (L1 := [A]) (F := []) (by repeat ((conv => arg 1; whnf); (conv => arg 2; whnf); first | with_reducible exact .done | exact Fin.all _ | refine .cons (by repeat ((conv => arg 2; whnf); first | with_reducible exact .here | ((with_reducible refine Del.hereC ?_); rfl) | ((with_reducible refine Del.hereS ?_ ?_ ?_) <;> rfl) | exact .here | apply Del.there)) ?_ | refine .drop ?_))).left (L1 := [A]))).2.1) ho2 (by omega) (by unfold maxLen; omega)) ?_
      rintro _ _ ⟨a7, c7, rfl, rfl, hn7⟩
      refine gt_ev rfl ((e_bd Try.underlying25 Try.zeroValue25 pl1025 rfl).to (v' := .agg ⟨[.slice a3 hs.length c3, .slice a7 ds.length c7, .int .u32 mx]⟩) rfl) ?_
      refine gt_eff rfl (s_stA Try.sizeOf25 rfl rfl (by repeat ((conv => arg 3; whnf); first | with_reducible exact .here | apply Turn.there))) ?_
      rintro _ _ ⟨rfl, rfl⟩
      refine gt_nil ?_
      refine gc_ret ?_
      exact retc (L1 := [allP [sown 66 5 (.slice a3 hs.length c3) hs.length ph, sown 66 5 (.slice a7 ds.length c7) ds.length pd], A]) rfl (by (conv => lhs; whnf)) Try.underlying25 (by repeat ((conv => arg 2; whnf); first | with_reducible exact .here | ((with_reducible refine Del.hereC ?_); rfl) | ((with_reducible refine Del.hereS ?_ ?_ ?_) <;> rfl) | exact .here | apply Del.there)) Try.sizeOf25 rfl rfl ⟨_, a3, c3, a7, c7, rfl, rfl, fun B w s => (by have s2 := Sat.unpack (F := []) s; exact ⟨own_net rfl s2 .here hq1, own_net rfl s2 (.there .here) hq2⟩)⟩ (fun w h => (Sat.pack (M := [sown 66 5 (.slice a3 hs.length c3) hs.length ph, sown 66 5 (.slice a7 ds.length c7) ds.length pd]) (F := A :: F) (h.fin (L1 := [sown 66 5 (.slice a3 hs.length c3) hs.length ph, sown 66 5 (.slice a7 ds.length c7) ds.length pd, A]) (F := F) (by repeat ((conv => arg 1; whnf); (conv => arg 2; whnf); first | with_reducible exact .done | exact Fin.all _ | refine .cons (by repeat ((conv => arg 2; whnf); first | with_reducible exact .here | ((with_reducible refine Del.hereC ?_); rfl) | ((with_reducible refine Del.hereS ?_ ?_ ?_) <;> rfl) | exact .here | apply Del.there)) ?_ | refine .drop ?_)))))
    · skip
      refine alt_eff rfl (s_bs0 Try.underlying22 Try.sizeOf66) ?_
      rintro _ _ ⟨b7, rfl, rfl⟩
      refine gt_eff rfl (s_ap0 (bytes := 40) (k := 5) Try.underlying22 info66 rfl rfl rfl rfl (by decide) rfl rfl (by repeat ((conv => arg 2; whnf); first | with_reducible exact .here | ((with_reducible refine Del.hereC ?_); rfl) | ((with_reducible refine Del.hereS ?_ ?_ ?_) <;> rfl) | exact .here | apply Del.there)) (fun B w h => (hrd B w ((h.fin (L1 := [A]) (F := []) (by repeat ((conv => arg 1; whnf); (conv => arg 2; whnf); first | with_reducible exact .done | exact Fin.all _ | refine .cons (by repeat ((conv => arg 2; whnf); first | with_reducible exact .here | ((with_reducible refine Del.hereC ?_); rfl) | ((with_reducible refine Del.hereS ?_ ?_ ?_) <;> rfl) | exact .here | apply Del.there)) ?_ | refine .drop ?_))).left (L1 := [A]))).1.1) ho1 (by omega) (by unfold maxLen; omega)) ?_
      rintro _ _ ⟨a3, c3, rfl, rfl, hn3⟩
      refine gt_eff rfl (s_ap0 (bytes := 40) (k := 5) Try.underlying22 info66 rfl rfl rfl rfl (by decide) rfl rfl (by repeat ((conv => arg 2; whnf); first | with_reducible exact .here | ((with_reducible refine Del.hereC ?_); rfl) | ((with_reducible refine Del.hereS ?_ ?_ ?_) <;> rfl) | exact .here | apply Del.there)) (fun B w h => (hrd B w ((h.fin (L1 := [A]) (F := []) (by repeat ((conv => arg 1; whnf); (conv => arg 2; whnf); first | with_reducible exact .done | exact Fin.all _ | refine .cons (by repeat ((conv => arg 2; whnf); first | with_reducible exact .here | ((with_reducible refine Del.hereC ?_); rfl) | ((with_reducible refine Del.hereS ?_ ?_ ?_) <;> rfl) | exact .here | apply Del.there)) ?_ | refine .drop ?_))).left (L1 := [A]))).2.1) ho2 (by omega) (by unfold maxLen; omega)) ?_
      rintro _ _ ⟨a7, c7, rfl, rfl, hn7⟩
      refine gt_ev rfl ((e_bd Try.underlying25 Try.zeroValue25 pl1025 rfl).to (v' := .agg ⟨[.slice a3 hs.length c3, .slice a7 ds.length c7, .int .u32 mx]⟩) rfl) ?_
      refine gt_eff rfl (s_stA Try.sizeOf25 rfl rfl (by repeat ((conv => arg 3; whnf); first | with_reducible exact .here | apply Turn.there))) ?_
      rintro _ _ ⟨rfl, rfl⟩
      refine gt_nil ?_
      refine gc_ret ?_
      exact retc (L1 := [allP [sown 66 5 (.slice a3 hs.length c3) hs.length ph, sown 66 5 (.slice a7 ds.length c7) ds.length pd], A]) rfl (by (conv => lhs; whnf)) Try.underlying25 (by repeat ((conv => arg 2; whnf); first | with_reducible exact .here | ((with_reducible refine Del.hereC ?_); rfl) | ((with_reducible refine Del.hereS ?_ ?_ ?_) <;> rfl) | exact .here | apply Del.there)) Try.sizeOf25 rfl rfl ⟨_, a3, c3, a7, c7, rfl, rfl, fun B w s => (by have s2 := Sat.unpack (F := []) s; exact ⟨own_net rfl s2 .here hq1, own_net rfl s2 (.there .here) hq2⟩)⟩ (fun w h => (Sat.pack (M := [sown 66 5 (.slice a3 hs.length c3) hs.length ph, sown 66 5 (.slice a7 ds.length c7) ds.length pd]) (F := A :: F) (h.fin (L1 := [sown 66 5 (.slice a3 hs.length c3) hs.length ph, sown 66 5 (.slice a7 ds.length c7) ds.length pd, A]) (F := F) (by repeat ((conv => arg 1; whnf); (conv => arg 2; whnf); first | with_reducible exact .done | exact Fin.all _ | refine .cons (by repeat ((conv => arg 2; whnf); first | with_reducible exact .here | ((with_reducible refine Del.hereC ?_); rfl) | ((with_reducible refine Del.hereS ?_ ?_ ?_) <;> rfl) | exact .here | apply Del.there)) ?_ | refine .drop ?_)))))
  · skip
    refine alt_eff rfl (s_bs0 Try.underlying22 Try.sizeOf66) ?_
    rintro _ _ ⟨b7, rfl, rfl⟩
    refine gt_eff rfl (s_bs0 Try.underlying22 Try.sizeOf66) ?_
    rintro _ _ ⟨b3, rfl, rfl⟩
    refine gt_eff rfl (s_ap0 (bytes := 40) (k := 5) Try.underlying22 info66 rfl rfl rfl rfl (by decide) rfl rfl (by repeat ((conv => arg 2; whnf); first | with_reducible exact .here | ((with_reducible refine Del.hereC ?_); rfl) | ((with_reducible refine Del.hereS ?_ ?_ ?_) <;> rfl) | exact .here | apply Del.there)) (fun B w h => (hrd B w ((h.fin (L1 := [A]) (F := []) (by repeat ((conv => arg 1; whnf); (conv => arg 2; whnf); first | with_reducible exact .done | exact Fin.all _ | refine .cons (by repeat ((conv => arg 2; whnf); first | with_reducible exact .here | ((with_reducible refine Del.hereC ?_); rfl) | ((with_reducible refine Del.hereS ?_ ?_ ?_) <;> rfl) | exact .here | apply Del.there)) ?_ | refine .drop ?_))).left (L1 := [A]))).1.1) ho1 (by omega) (by unfold maxLen; omega)) ?_
    rintro _ _ ⟨a3, c3, rfl, rfl, hn3⟩
    refine gt_eff rfl (s_ap0 (bytes := 40) (k := 5) Try.underlying22 info66 rfl rfl rfl rfl (by decide) rfl rfl (by repeat ((conv => arg 2; whnf); first | with_reducible exact .here | ((with_reducible refine Del.hereC ?_); rfl) | ((with_reducible refine Del.hereS ?_ ?_ ?_) <;> rfl) | exact .here | apply Del.there)) (fun B w h => (hrd B w ((h.fin (L1 := [A]) (F := []) (by repeat ((conv => arg 1; whnf); (conv => arg 2; whnf); first | with_reducible exact .done | exact Fin.all _ | refine .cons (by repeat ((conv => arg 2; whnf); first | with_reducible exact .here | ((with_reducible refine Del.hereC ?_); rfl) | ((with_reducible refine Del.hereS ?_ ?_ ?_) <;> rfl) | exact .here | apply Del.there)) ?_ | refine .drop ?_))).left (L1 := [A]))).2.1) ho2 (by omega) (by unfold maxLen; omega)) ?_
    rintro _ _ ⟨a7, c7, rfl, rfl, hn7⟩
    refine gt_ev rfl ((e_bd Try.underlying25 Try.zeroValue25 pl1025 rfl).to (v' := .agg ⟨[.slice a3 hs.length c3, .slice a7 ds.length c7, .int .u32 mx]⟩) rfl) ?_
    refine gt_eff rfl (s_stA Try.sizeOf25 rfl rfl (by repeat ((conv => arg 3; whnf); first | with_reducible exact .here | apply Turn.there))) ?_
    rintro _ _ ⟨rfl, rfl⟩
    refine gt_nil ?_
    refine gc_ret ?_
    exact retc (L1 := [allP [sown 66 5 (.slice a3 hs.length c3) hs.length ph, sown 66 5 (.slice a7 ds.length c7) ds.length pd], A]) rfl (by (conv => lhs; whnf)) Try.underlying25 (by repeat ((conv => arg 2; whnf); first | with_reducible exact .here | ((with_reducible refine Del.hereC ?_); rfl) | ((with_reducible refine Del.hereS ?_ ?_ ?_) <;> rfl) | exact .here | apply Del.there)) Try.sizeOf25 rfl rfl ⟨_, a3, c3, a7, c7, rfl, rfl, fun B w s => (by have s2 := Sat.unpack (F := []) s; exact ⟨own_net rfl s2 .here hq1, own_net rfl s2 (.there .here) hq2⟩)⟩ (fun w h => (Sat.pack (M := [sown 66 5 (.slice a3 hs.length c3) hs.length ph, sown 66 5 (.slice a7 ds.length c7) ds.length pd]) (F := A :: F) (h.fin (L1 := [sown 66 5 (.slice a3 hs.length c3) hs.length ph, sown 66 5 (.slice a7 ds.length c7) ds.length pd, A]) (F := F) (by repeat ((conv => arg 1; whnf); (conv => arg 2; whnf); first | with_reducible exact .done | exact Fin.all _ | refine .cons (by repeat ((conv => arg 2; whnf); first | with_reducible exact .here | ((with_reducible refine Del.hereC ?_); rfl) | ((with_reducible refine Del.hereS ?_ ?_ ?_) <;> rfl) | exact .here | apply Del.there)) ?_ | refine .drop ?_)))))

set_option maxHeartbeats 4000000 in
theorem judges_t {A : HProp} {ah ad : Option Addr} {hs ds : List Int} {ch cd : Nat} {mx : Int} {ph pd : List Value} (hrd : ∀ B w, Sat B w [A] → RdNet w ah ch hs ph ∧ RdNet w ad cd ds pd) (ho1 : ∀ u ∈ ph, u.oneCell' = true) (ho2 : ∀ u ∈ pd, u.oneCell' = true) (hq1 : ∀ i x, hs[i]? = some x → ph[i * 5 + 3]? = some (.int .i64 x)) (hq2 : ∀ i x, ds[i]? = some x → pd[i * 5 + 3]? = some (.int .i64 x)) (hw1 : okW hs) (hw2 : okW ds) {sa : Option Addr} {sc : Nat} {fs : List FactV} (hfs : ∀ B w, Sat B w [A] → RdFs w sa fs) (hsn : sa = none → fs.length = 0 ∧ sc = 0) (hok : ∀ x ∈ fs, x.f.ok) (hn : fs.length * 72 ≤ 140737488355328) : Tri Try.prog 3 #[.agg ⟨[.slice ah hs.length ch, .slice ad ds.length cd, .int .u32 mx]⟩, .slice sa fs.length sc] [A] (isR (.bool true) [A]) := by
  refine tri_of Try.call3 Try.func3 rfl fun B F => ?_
  refine gc_seq ?_
  refine gc_region ?_
  refine g_eff (s_bx) ?_
  rintro _ _ ⟨b2, rfl, rfl⟩
  refine g_ev (e_as) ?_
  refine g_nil ?_
  refine gc_seq ?_
  refine gc_seq ?_
  refine gc_region ?_
  refine g_eff (s_call awake18_t .nil) ?_
  rintro _ _ ⟨_, ⟨rfl, rfl⟩, rfl⟩
  refine g_ev (e_not rfl) ?_
  refine g_nil ?_
  refine gc_false ?_
  refine gc_skip ?_
  refine gc_seq ?_
  refine gc_seq ?_
  refine gc_region ?_
  refine g_ev (e_fa Try.underlying25 rfl rfl Try.sizeOf22) ?_
  refine g_ev (e_ld Try.underlying22 rfl (by repeat ((conv => arg 2; whnf); first | with_reducible exact .here | ((with_reducible refine Del.hereC ?_); rfl) | ((with_reducible refine Del.hereS ?_ ?_ ?_) <;> rfl) | exact .here | apply Del.there)) rfl) ?_
  refine g_ev (e_len Try.underlying22 rfl) ?_
  refine g_ev (e_gt rfl rfl) ?_
  refine g_ev (e_mv) ?_
  first | refine g_dec 16 rfl (fun c16 => ?_) (fun c16 => ?_) | refine g_ndec 16 rfl (fun c16 => ?_) (fun c16 => ?_) | refine g_bool 16 rfl (fun c16 => ?_) (fun c16 => ?_)
  · skip
    refine g_not ?_
    refine g_not ?_
    refine g_not ?_
    refine g_not ?_
    refine g_ev (e_pk rfl) ?_
    refine g_nil ?_
    refine gc_true ?_
    refine gc_seq ?_
    refine gc_region ?_
    refine g_ev (e_as) ?_
    refine g_nil ?_
    refine gc_ret ?_
    exact ret1 (v := .bool true) (L1 := [A]) rfl (by (conv => lhs; whnf); try rfl) ⟨rfl, rfl⟩ (fun _ h => h.fin (by repeat ((conv => arg 1; whnf); (conv => arg 2; whnf); first | with_reducible exact .done | exact Fin.all _ | refine .cons (by repeat ((conv => arg 2; whnf); first | with_reducible exact .here | ((with_reducible refine Del.hereC ?_); rfl) | ((with_reducible refine Del.hereS ?_ ?_ ?_) <;> rfl) | exact .here | apply Del.there)) ?_ | refine .drop ?_)))
  · skip
    refine g_ev (e_fa Try.underlying25 rfl rfl Try.sizeOf22) ?_
    refine g_ev (e_ld Try.underlying22 rfl (by repeat ((conv => arg 2; whnf); first | with_reducible exact .here | ((with_reducible refine Del.hereC ?_); rfl) | ((with_reducible refine Del.hereS ?_ ?_ ?_) <;> rfl) | exact .here | apply Del.there)) rfl) ?_
    refine g_ev (e_len Try.underlying22 rfl) ?_
    refine g_ev (e_gt rfl rfl) ?_
    refine g_ev (e_pk rfl) ?_
    refine g_nil ?_
    first | refine gc_dec rfl (fun c21 => ?_) (fun c21 => ?_) | refine gc_ndec rfl (fun c21 => ?_) (fun c21 => ?_) | refine gc_cond rfl (fun c21 => ?_) (fun c21 => ?_)
    · skip
      refine gc_seq ?_
      refine gc_region ?_
      refine g_ev (e_as) ?_
      refine g_nil ?_
      refine gc_ret ?_
      exact ret1 (v := .bool true) (L1 := [A]) rfl (by (conv => lhs; whnf); try rfl) ⟨rfl, rfl⟩ (fun _ h => h.fin (by repeat ((conv => arg 1; whnf); (conv => arg 2; whnf); first | with_reducible exact .done | exact Fin.all _ | refine .cons (by repeat ((conv => arg 2; whnf); first | with_reducible exact .here | ((with_reducible refine Del.hereC ?_); rfl) | ((with_reducible refine Del.hereS ?_ ?_ ?_) <;> rfl) | exact .here | apply Del.there)) ?_ | refine .drop ?_)))
    · skip
      refine gc_skip ?_
      refine gc_seq ?_
      refine gc_region ?_
      refine g_ev (e_ldA Try.underlying25 rfl (by repeat ((conv => arg 2; whnf); first | with_reducible exact .here | ((with_reducible refine Del.hereC ?_); rfl) | ((with_reducible refine Del.hereS ?_ ?_ ?_) <;> rfl) | exact .here | apply Del.there)) Try.sizeOf25 (by first | exact Nat.le_of_ble_eq_true rfl | simp)) ?_
      refine g_eff (s_call (ncopied_t hrd ho1 ho2 hq1 hq2 (by omega) (by omega)) (.cons (by repeat ((conv => arg 2; whnf); first | with_reducible exact .here | ((with_reducible refine Del.hereC ?_); rfl) | ((with_reducible refine Del.hereS ?_ ?_ ?_) <;> rfl) | exact .here | apply Del.there)) (.nil))) ?_
      rintro _ _ ⟨_, ⟨N, ah2, ch2, ad2, cd2, rfl, rfl, hrn⟩, rfl⟩
      refine g_eff (s_call (new_t (A := N) hrn (by omega)) (.cons (by repeat ((conv => arg 2; whnf); first | with_reducible exact .here | ((with_reducible refine Del.hereC ?_); rfl) | ((with_reducible refine Del.hereS ?_ ?_ ?_) <;> rfl) | exact .here | apply Del.there)) (.nil))) ?_
      rintro _ _ ⟨_, ⟨bj, rfl, rfl⟩, rfl⟩
      refine g_ev (e_as) ?_
      refine g_nil ?_
      refine gc_seq ?_
      refine gc_region ?_
      refine g_ev (e_ldA Try.underlying25 rfl (by repeat ((conv => arg 2; whnf); first | with_reducible exact .here | ((with_reducible refine Del.hereC ?_); rfl) | ((with_reducible refine Del.hereS ?_ ?_ ?_) <;> rfl) | exact .here | apply Del.there)) Try.sizeOf25 (by first | exact Nat.le_of_ble_eq_true rfl | simp)) ?_
      refine g_eff (s_call (rnew_t (A := A) (fun B w h => ⟨(hrd B w h).1.rdsW, (hrd B w h).2.rdsW⟩) (by omega)) (.cons (by repeat ((conv => arg 2; whnf); first | with_reducible exact .here | ((with_reducible refine Del.hereC ?_); rfl) | ((with_reducible refine Del.hereS ?_ ?_ ?_) <;> rfl) | exact .here | apply Del.there)) (.nil))) ?_
      rintro _ _ ⟨_, ⟨rj, rfl, rfl⟩, rfl⟩
      refine g_ev (e_as) ?_
      refine g_nil ?_
      refine gc_seq ?_
      refine gc_seq ?_
      refine gc_region ?_
      refine g_ev (e_mv) ?_
      refine g_ev (e_eqp Try.underlying28 rfl rfl) ?_
      refine g_ev (e_mv) ?_
      refine g_ev (e_mv) ?_
      refine g_eff (s_call (verdict_t _) (.cons (by repeat ((conv => arg 2; whnf); first | with_reducible exact .here | ((with_reducible refine Del.hereC ?_); rfl) | ((with_reducible refine Del.hereS ?_ ?_ ?_) <;> rfl) | exact .here | apply Del.there)) (.nil))) ?_
      rintro _ _ ⟨_, ⟨rfl, rfl⟩, rfl⟩
      refine g_ev ((e_bd Try.underlying34 Try.zeroValue34 pl1034 rfl).to (v' := .agg ⟨[.int .i64 0, .int .i64 0]⟩) rfl) ?_
      refine g_ev ((e_neV rfl rfl).to (v' := .bool false) (congrArg Value.bool (by rw [decide_eq_true ⟨rfl, rfl⟩]; rfl))) ?_
      refine g_ev (e_pk rfl) ?_
      refine g_nil ?_
      refine gc_false ?_
      refine gc_skip ?_
      refine gc_seq ?_
      refine gc_region ?_
      refine g_ev (e_mv) ?_
      refine g_eff (s_call (copied_t (fs := fs) hfs (fun h => (hsn h).2) hok (by first | omega | (simp only [List.length_take]; omega))) (.cons (by repeat ((conv => arg 2; whnf); first | with_reducible exact .here | ((with_reducible refine Del.hereC ?_); rfl) | ((with_reducible refine Del.hereS ?_ ?_ ?_) <;> rfl) | exact .here | apply Del.there)) (.nil))) ?_
      rintro _ _ ⟨_, ⟨la1, lc1, fs1, rfl, rfl, hm1⟩, rfl⟩
      have hl1 := len_of_map hm1
      rw [hl1]
      refine g_ev (e_as) ?_
      refine g_nil ?_
      refine gc_seq ?_
      refine gc_seq ?_
      refine gc_region ?_
      refine g_ev (e_as) ?_
      refine g_nil ?_
      refine gc_block ?_
      refine gc_loop (α := Nat) (fun i E L => (i ≤ fs.length) ∧ (i ≤ 1000) ∧ E 1 = .slice sa fs.length sc ∧ E 2 = .pointer (some ⟨b2, 0, none⟩) ∧ E 5 = .pointer (some ⟨bj, 0, none⟩) ∧ E 6 = .pointer (some ⟨rj, 0, none⟩) ∧ E 7 = .slice la1 fs.length lc1 ∧ E 8 = .int .i64 (i : Int) ∧ ∀ w, Sat B w L → Sat B w (jud bj ((JudD.mk (newD hs ds) 0 0 0).sees ((fs.take i).map fun x : FactV => x.f)) :: rjud rj (rnewD hs ds).length ((RD.mk (rnewD hs ds) [] 0 0 0).sees ((fs.take i).map fun x : FactV => x.f)) :: factsM la1 lc1 fs1 :: blk b2 25 [.slice ah hs.length ch, .slice ad ds.length cd, .int .u32 mx] :: A :: F)) (fun i => fs.length - i) 0 ?_ ?_
      · exact ⟨Nat.zero_le _, Nat.zero_le _, (by (conv => lhs; whnf); try rfl), (by (conv => lhs; whnf); try rfl), (by (conv => lhs; whnf); try rfl), (by (conv => lhs; whnf); try rfl), (by (conv => lhs; whnf); try rfl), (by (conv => lhs; whnf); try rfl), (fun _ h => h.fin (L1 := [jud bj ⟨newD hs ds, 0, 0, 0⟩, rjud rj (rnewD hs ds).length ⟨rnewD hs ds, [], 0, 0, 0⟩, factsM la1 lc1 fs1, blk b2 25 [.slice ah hs.length ch, .slice ad ds.length cd, .int .u32 mx], A]) (F := F) (by repeat ((conv => arg 1; whnf); (conv => arg 2; whnf); first | with_reducible exact .done | exact Fin.all _ | refine .cons (by repeat ((conv => arg 2; whnf); first | with_reducible exact .here | ((with_reducible refine Del.hereC ?_); rfl) | ((with_reducible refine Del.hereS ?_ ?_ ?_) <;> rfl) | exact .here | apply Del.there)) ?_ | refine .drop ?_)))⟩
      · rintro i E L ⟨hi, hi2, s1, s2, s5, s6, s7, s8, hL⟩
        refine gc_imp hL ?_
        refine gc_slot 1 _ ?_ s1
        refine gc_slot 2 _ ?_ s2
        refine gc_slot 5 _ ?_ s5
        refine gc_slot 6 _ ?_ s6
        refine gc_slot 7 _ ?_ s7
        refine gc_slot 8 _ ?_ s8
        clear hL s1 s2 s5 s6 s7 s8
        refine gc_seq ?_
        refine gc_seq ?_
        refine gc_region ?_
        refine g_ev (e_mv) ?_
        refine g_ev (e_mv) ?_
        refine g_ev (e_len Try.underlying26 rfl) ?_
        refine g_ev (e_lt rfl rfl) ?_
        refine g_ev (e_mv) ?_
        first | refine g_dec 41 rfl (fun c41 => ?_) (fun c41 => ?_) | refine g_ndec 41 rfl (fun c41 => ?_) (fun c41 => ?_) | refine g_bool 41 rfl (fun c41 => ?_) (fun c41 => ?_)
        · skip
          refine g_ev (e_mv) ?_
          refine g_ev (e_lt rfl rfl) ?_
          refine g_ev (e_pk rfl) ?_
          refine g_nil ?_
          first | refine gc_dec rfl (fun c44 => ?_) (fun c44 => ?_) | refine gc_ndec rfl (fun c44 => ?_) (fun c44 => ?_) | refine gc_cond rfl (fun c44 => ?_) (fun c44 => ?_)
          · skip
            refine gc_skip ?_
            refine gc_seq ?_
            refine gc_block ?_
            refine gc_seq ?_
            refine gc_region ?_
            obtain ⟨y, hy⟩ : ∃ y, fs[i]? = some y := ⟨_, List.getElem?_eq_getElem (by omega)⟩
            obtain ⟨z, hz⟩ : ∃ z, fs1[i]? = some z := ⟨_, List.getElem?_eq_getElem (by omega)⟩
            have hzy : z.f = y.f := by
              have h0 := congrArg (fun l => l[i]?) hm1
              simp only [List.getElem?_map, hy, hz, Option.map_some] at h0
              exact Option.some.inj h0
            have hyo := hok y (List.mem_of_getElem? hy)
            refine g_fact (φ := ∃ p, la1 = some p) (fun w h => (by have h0 := (factsM_rd ((h.fin (L1 := [factsM la1 lc1 fs1]) (F := F) (by repeat ((conv => arg 1; whnf); (conv => arg 2; whnf); first | with_reducible exact .done | exact Fin.all _ | refine .cons (by repeat ((conv => arg 2; whnf); first | with_reducible exact .here | ((with_reducible refine Del.hereC ?_); rfl) | ((with_reducible refine Del.hereS ?_ ?_ ?_) <;> rfl) | exact .here | apply Del.there)) ?_ | refine .drop ?_))).left (L1 := [factsM la1 lc1 fs1]))).1; cases la1 with | none => rw [h0 rfl] at hz; cases hz | some p => exact ⟨p, rfl⟩)) fun ⟨p, e1⟩ => ?_
            subst e1
            refine g_fact (φ := ∃ p, sa = some p) (fun w h => (by have h0 := (hfs _ w ((h.fin (L1 := [A]) (F := F) (by repeat ((conv => arg 1; whnf); (conv => arg 2; whnf); first | with_reducible exact .done | exact Fin.all _ | refine .cons (by repeat ((conv => arg 2; whnf); first | with_reducible exact .here | ((with_reducible refine Del.hereC ?_); rfl) | ((with_reducible refine Del.hereS ?_ ?_ ?_) <;> rfl) | exact .here | apply Del.there)) ?_ | refine .drop ?_))).left (L1 := [A]))).1; cases sa with | none => rw [h0 rfl] at hy; cases hy | some p => exact ⟨p, rfl⟩)) fun ⟨q, e2⟩ => ?_
            subst e2
            have hrel := sees_rel (start_rel hw1 hw2) ((fs.take i).map fun x : FactV => x.f) (fun f hf => by obtain ⟨x, hx, rfl⟩ := List.mem_map.1 hf; exact (hok x (List.mem_of_mem_take hx)).2) (by simp only [List.length_map, List.length_take]; omega)
            have hratR : ((RD.mk (rnewD hs ds) [] 0 0 0).sees ((fs.take i).map fun x : FactV => x.f)).at_ = i := by rw [rsees_at, List.length_map, List.length_take]; show 0 + _ = _; omega
            have hratD : ((JudD.mk (newD hs ds) 0 0 0).sees ((fs.take i).map fun x : FactV => x.f)).at_ = i := by rw [sees_at, List.length_map, List.length_take]; show 0 + _ = _; omega
            have hrsl : ((RD.mk (rnewD hs ds) [] 0 0 0).sees ((fs.take i).map fun x : FactV => x.f)).sent.length ≤ 1000000 := by have h0 := rsees_sent ⟨rnewD hs ds, [], 0, 0, 0⟩ ((fs.take i).map fun x : FactV => x.f); rw [List.length_map, List.length_take] at h0; have h1 : ([] : List FactS).length = 0 := rfl; simp only [h1] at h0; omega
            have hrel2 := see_rel hrel (f := y.f) hyo.2 (by rw [hratR]; omega)
            refine g_ev (e_mv) ?_
            refine g_ev (e_mv) ?_
            refine g_ev (e_mv) ?_
            refine g_ev (e_iaA (q := i) Try.underlying26 Try.sizeOf43 rfl rfl rfl (by omega)) ?_
            refine g_ev ((e_ldAc (xs := z.cells) Try.underlying43 rfl Try.sizeOf43 rfl (fun B w h => (factsM_rd ((h.fin (L1 := [factsM (some p) lc1 fs1]) (F := F) (by repeat ((conv => arg 1; whnf); (conv => arg 2; whnf); first | with_reducible exact .done | exact Fin.all _ | refine .cons (by repeat ((conv => arg 2; whnf); first | with_reducible exact .here | ((with_reducible refine Del.hereC ?_); rfl) | ((with_reducible refine Del.hereS ?_ ?_ ?_) <;> rfl) | exact .here | apply Del.there)) ?_ | refine .drop ?_))).left (L1 := [factsM (some p) lc1 fs1]))).2.1 p rfl _ _ hz)).to (v' := .agg ⟨y.f.cells (.slice z.a y.f.data.length z.c)⟩) (by rw [← hzy])) ?_
            refine g_eff (s_call (see_t ((JudD.mk (newD hs ds) 0 0 0).sees ((fs.take i).map fun x : FactV => x.f)) y.f (a := z.a) (c := z.c) (A := factsM (some p) lc1 fs1) (by rw [← hzy]; exact fun B w h => (factsM_rd h).2.2 z (List.mem_of_getElem? hz)) hyo (by rw [hratD]; omega)) (.cons (by repeat ((conv => arg 2; whnf); first | with_reducible exact .here | ((with_reducible refine Del.hereC ?_); rfl) | ((with_reducible refine Del.hereS ?_ ?_ ?_) <;> rfl) | exact .here | apply Del.there)) (.cons (by repeat ((conv => arg 2; whnf); first | with_reducible exact .here | ((with_reducible refine Del.hereC ?_); rfl) | ((with_reducible refine Del.hereS ?_ ?_ ?_) <;> rfl) | exact .here | apply Del.there)) (.nil)))) ?_
            rintro _ _ ⟨_, ⟨rfl, rfl⟩, rfl⟩
            refine g_eff (s_al Try.zeroValue34) ?_
            rintro _ _ ⟨b9, rfl, rfl⟩
            refine g_eff (s_stA Try.sizeOf34 rfl rfl (by repeat ((conv => arg 3; whnf); first | with_reducible exact .here | apply Turn.there))) ?_
            rintro _ _ ⟨rfl, rfl⟩
            refine g_nil ?_
            refine gc_seq ?_
            refine gc_draw (D := [rjud rj (rnewD hs ds).length ((RD.mk (rnewD hs ds) [] 0 0 0).sees ((fs.take i).map fun x : FactV => x.f)), A, jud bj (((JudD.mk (newD hs ds) 0 0 0).sees ((fs.take i).map fun x : FactV => x.f)).see y.f)]) (fin := none) (plan := [(true, 0), (true, 1), (true, 2), (true, 3), (true, 4), (false, 5), (false, 6), (true, 7), (true, 8), (true, 9), (true, 11), (false, 10), (true, 12), (true, 13)]) rfl (by kernel_rfl) (by kernel_rfl) rfl (.cons (by repeat ((conv => arg 2; whnf); first | with_reducible exact .here | ((with_reducible refine Del.hereC ?_); rfl) | ((with_reducible refine Del.hereS ?_ ?_ ?_) <;> rfl) | exact .here | apply Del.there)) (.cons (by repeat ((conv => arg 2; whnf); first | with_reducible exact .here | ((with_reducible refine Del.hereC ?_); rfl) | ((with_reducible refine Del.hereS ?_ ?_ ?_) <;> rfl) | exact .here | apply Del.there)) (.cons (by repeat ((conv => arg 2; whnf); first | with_reducible exact .here | ((with_reducible refine Del.hereC ?_); rfl) | ((with_reducible refine Del.hereS ?_ ?_ ?_) <;> rfl) | exact .here | apply Del.there)) (.nil)))) ?_
            refine gp_ev rfl ((e_ldA Try.underlying34 rfl (by repeat ((conv => arg 2; whnf); first | with_reducible exact .here | ((with_reducible refine Del.hereC ?_); rfl) | ((with_reducible refine Del.hereS ?_ ?_ ?_) <;> rfl) | exact .here | apply Del.there)) Try.sizeOf34 (by simp)).to (v' := .agg ⟨[.int .i64 (((JudD.mk (newD hs ds) 0 0 0).sees ((fs.take i).map fun x : FactV => x.f)).see y.f).r, .int .i64 (((JudD.mk (newD hs ds) 0 0 0).sees ((fs.take i).map fun x : FactV => x.f)).see y.f).ra]⟩) rfl) ?_
            refine gp_ev rfl (e_mv) ?_
            refine gp_ev rfl (e_mv) ?_
            refine gp_ev rfl (e_mv) ?_
            refine gp_ev rfl (e_iaA (q := i) Try.underlying26 Try.sizeOf43 rfl rfl rfl (by omega)) ?_
            refine gp_evf rfl (e_ldAc (xs := y.cells) Try.underlying43 rfl Try.sizeOf43 rfl (fun B w h => (hfs B w ((h.fin (L1 := [A]) (F := F) (by repeat ((conv => arg 1; whnf); (conv => arg 2; whnf); first | with_reducible exact .done | exact Fin.all _ | refine .cons (by repeat ((conv => arg 2; whnf); first | with_reducible exact .here | ((with_reducible refine Del.hereC ?_); rfl) | ((with_reducible refine Del.hereS ?_ ?_ ?_) <;> rfl) | exact .here | apply Del.there)) ?_ | refine .drop ?_))).left (L1 := [A]))).2.1 q rfl _ _ hy)) ?_
            refine gp_eff rfl (s_call (rsee_t ((RD.mk (rnewD hs ds) [] 0 0 0).sees ((fs.take i).map fun x : FactV => x.f)) y.f (a := y.a) (c := y.c) (A := A) (fun B w h => (hfs B w h).2.2 y (List.mem_of_getElem? hy)) hyo (by rw [hratR]; omega) hrsl) (.cons (by repeat ((conv => arg 2; whnf); first | with_reducible exact .here | ((with_reducible refine Del.hereC ?_); rfl) | ((with_reducible refine Del.hereS ?_ ?_ ?_) <;> rfl) | exact .here | apply Del.there)) (.cons (by repeat ((conv => arg 2; whnf); first | with_reducible exact .here | ((with_reducible refine Del.hereC ?_); rfl) | ((with_reducible refine Del.hereS ?_ ?_ ?_) <;> rfl) | exact .here | apply Del.there)) (.nil)))) ?_
            rintro _ _ ⟨_, ⟨rfl, rfl⟩, rfl⟩
            refine gp_ev rfl ((e_neV rfl rfl).to (v' := .bool false) (congrArg Value.bool (by rw [decide_eq_true ⟨hrel2.r, hrel2.ra⟩]; rfl))) ?_
            refine gp_ev rfl (e_mv) ?_
            refine gp_ev rfl (e_mv) ?_
            refine gp_ev rfl ((e_ldA Try.underlying34 rfl (by repeat ((conv => arg 2; whnf); first | with_reducible exact .here | ((with_reducible refine Del.hereC ?_); rfl) | ((with_reducible refine Del.hereS ?_ ?_ ?_) <;> rfl) | exact .here | apply Del.there)) Try.sizeOf34 (by simp)).to (v' := .agg ⟨[.int .i64 (((JudD.mk (newD hs ds) 0 0 0).sees ((fs.take i).map fun x : FactV => x.f)).see y.f).r, .int .i64 (((JudD.mk (newD hs ds) 0 0 0).sees ((fs.take i).map fun x : FactV => x.f)).see y.f).ra]⟩) rfl) ?_
            refine gp_eff rfl (s_call (verdict_t _) (.cons (by repeat ((conv => arg 2; whnf); first | with_reducible exact .here | ((with_reducible refine Del.hereC ?_); rfl) | ((with_reducible refine Del.hereS ?_ ?_ ?_) <;> rfl) | exact .here | apply Del.there)) (.nil))) ?_
            rintro _ _ ⟨_, ⟨rfl, rfl⟩, rfl⟩
            refine gp_ev rfl ((e_neV rfl rfl).to (v' := .bool false) (congrArg Value.bool (by rw [decide_eq_true ⟨rfl, rfl⟩]; rfl))) ?_
            refine gp_ev rfl (e_pk rfl) ?_
            refine gp_nil ?_
            refine gc_false ?_
            refine gc_skip ?_
            refine gc_region ?_
            refine g_ev (e_mv) ?_
            refine g_ev ((e_addw rfl rfl).to (v' := .int .i64 ((i + 1 : Nat) : Int)) (congrArg _ (wrapN (by omega) (by omega)))) ?_
            refine g_ev (e_as) ?_
            refine g_nil ?_
            have hD1 : ((JudD.mk (newD hs ds) 0 0 0).sees ((fs.take (i + 1)).map fun x : FactV => x.f)) = (((JudD.mk (newD hs ds) 0 0 0).sees ((fs.take i).map fun x : FactV => x.f)).see y.f) := e_vc _ fs hy
            have hR1 : ((RD.mk (rnewD hs ds) [] 0 0 0).sees ((fs.take (i + 1)).map fun x : FactV => x.f)) = (((RD.mk (rnewD hs ds) [] 0 0 0).sees ((fs.take i).map fun x : FactV => x.f)).see y.f) := by rw [List.take_add_one, hy, List.map_append]; exact rsees_snoc _ _ _
            refine Exists.intro (i + 1) (And.intro ⟨(by omega), (by omega), (by (conv => lhs; whnf); try rfl), (by (conv => lhs; whnf); try rfl), (by (conv => lhs; whnf); try rfl), (by (conv => lhs; whnf); try rfl), (by (conv => lhs; whnf); try rfl), (by (conv => lhs; whnf); try rfl), (fun w h => by rw [hD1, hR1]; exact h.fin (L1 := [jud bj (((JudD.mk (newD hs ds) 0 0 0).sees ((fs.take i).map fun x : FactV => x.f)).see y.f), rjud rj (rnewD hs ds).length (((RD.mk (rnewD hs ds) [] 0 0 0).sees ((fs.take i).map fun x : FactV => x.f)).see y.f), factsM (some p) lc1 fs1, blk b2 25 [.slice ah hs.length ch, .slice ad ds.length cd, .int .u32 mx], A]) (F := F) (by repeat ((conv => arg 1; whnf); (conv => arg 2; whnf); first | with_reducible exact .done | exact Fin.all _ | refine .cons (by repeat ((conv => arg 2; whnf); first | with_reducible exact .here | ((with_reducible refine Del.hereC ?_); rfl) | ((with_reducible refine Del.hereS ?_ ?_ ?_) <;> rfl) | exact .here | apply Del.there)) ?_ | refine .drop ?_)))⟩ (by omega))
          · skip
            refine gc_exit ?_
            refine gc_seq ?_
            refine gc_seq ?_
            refine gc_region ?_
            refine g_ev (e_mv) ?_
            refine g_ev (e_len Try.underlying26 rfl) ?_
            refine g_ev (e_gt rfl rfl) ?_
            refine g_nil ?_
            first | refine gc_dec rfl (fun c69 => ?_) (fun c69 => ?_) | refine gc_ndec rfl (fun c69 => ?_) (fun c69 => ?_) | refine gc_cond rfl (fun c69 => ?_) (fun c69 => ?_)
            · skip
              refine gc_seq ?_
              refine gc_region ?_
              refine g_ev (e_as) ?_
              refine g_nil ?_
              refine gc_ret ?_
              exact ret1 (v := .bool true) (L1 := [A]) rfl (by (conv => lhs; whnf); try rfl) ⟨rfl, rfl⟩ (fun _ h => h.fin (by repeat ((conv => arg 1; whnf); (conv => arg 2; whnf); first | with_reducible exact .done | exact Fin.all _ | refine .cons (by repeat ((conv => arg 2; whnf); first | with_reducible exact .here | ((with_reducible refine Del.hereC ?_); rfl) | ((with_reducible refine Del.hereS ?_ ?_ ?_) <;> rfl) | exact .here | apply Del.there)) ?_ | refine .drop ?_)))
            · skip
              refine gc_skip ?_
              refine gc_seq ?_
              have hti : fs.take i = fs := List.take_of_length_le (by omega)
              have hrel := sees_rel (start_rel hw1 hw2) ((fs.take i).map fun x : FactV => x.f) (fun f hf => by obtain ⟨x, hx, rfl⟩ := List.mem_map.1 hf; exact (hok x (List.mem_of_mem_take hx)).2) (by simp only [List.length_map, List.length_take]; omega)
              refine gc_rjud (by repeat ((conv => arg 2; whnf); first | with_reducible exact .here | ((with_reducible refine Del.hereC ?_); rfl) | ((with_reducible refine Del.hereS ?_ ?_ ?_) <;> rfl) | exact .here | apply Del.there)) fun ls2 se2 ea2 ec2 sa2 sc2 ta2 tc2 _ _ _ => ?_
              refine gc_draw (D := [A, factsM la1 lc1 fs1]) (fin := none) (plan := [(true, 0), (true, 1), (true, 3), (true, 4), (true, 5), (true, 6), (false, 2), (true, 7), (true, 8)]) rfl (by kernel_rfl) (by kernel_rfl) rfl (.cons (by repeat ((conv => arg 2; whnf); first | with_reducible exact .here | ((with_reducible refine Del.hereC ?_); rfl) | ((with_reducible refine Del.hereS ?_ ?_ ?_) <;> rfl) | exact .here | apply Del.there)) (.cons (by repeat ((conv => arg 2; whnf); first | with_reducible exact .here | ((with_reducible refine Del.hereC ?_); rfl) | ((with_reducible refine Del.hereS ?_ ?_ ?_) <;> rfl) | exact .here | apply Del.there)) (.nil))) ?_
              refine gp_ev rfl (e_ldA Try.underlying25 rfl (by repeat ((conv => arg 2; whnf); first | with_reducible exact .here | ((with_reducible refine Del.hereC ?_); rfl) | ((with_reducible refine Del.hereS ?_ ?_ ?_) <;> rfl) | exact .here | apply Del.there)) Try.sizeOf25 (by first | exact Nat.le_of_ble_eq_true rfl | simp)) ?_
              refine gp_ev rfl (e_mv) ?_
              refine gp_ev rfl (e_mv) ?_
              refine gp_ev rfl (e_nc rfl) ?_
              refine gp_ev rfl (e_fa Try.underlying48 rfl rfl Try.sizeOf34) ?_
              refine gp_ev rfl ((e_ldA Try.underlying34 rfl (by repeat ((conv => arg 2; whnf); first | with_reducible exact .here | ((with_reducible refine Del.hereC ?_); rfl) | ((with_reducible refine Del.hereS ?_ ?_ ?_) <;> rfl) | exact .here | apply Del.there)) Try.sizeOf34 (by simp)).to (v' := .agg ⟨[.int .i64 ((RD.mk (rnewD hs ds) [] 0 0 0).sees ((fs.take i).map fun x : FactV => x.f)).r, .int .i64 ((RD.mk (rnewD hs ds) [] 0 0 0).sees ((fs.take i).map fun x : FactV => x.f)).ra]⟩) rfl) ?_
              refine gp_eff rfl (s_call (check_n (A := A) (A2 := factsM la1 lc1 fs1) (FS := (fs.map fun x : FactV => x.f)) ⟨_, _, _, _, _, rfl, (fun B w h => ⟨(hrd B w h).1.rdsW, (hrd B w h).2.rdsW⟩)⟩ (by omega) hl1 hm1 (fun B w h => factsM_rd h) (fun f hf => by obtain ⟨x, hx, rfl⟩ := List.mem_map.1 hf; exact hok x hx) (by rw [List.length_map]; omega)) (.cons (by repeat ((conv => arg 2; whnf); first | with_reducible exact .here | ((with_reducible refine Del.hereC ?_); rfl) | ((with_reducible refine Del.hereS ?_ ?_ ?_) <;> rfl) | exact .here | apply Del.there)) (.cons (by repeat ((conv => arg 2; whnf); first | with_reducible exact .here | ((with_reducible refine Del.hereC ?_); rfl) | ((with_reducible refine Del.hereS ?_ ?_ ?_) <;> rfl) | exact .here | apply Del.there)) (.nil)))) ?_
              rintro _ _ ⟨_, ⟨rfl, rfl⟩, rfl⟩
              refine gp_ev rfl ((e_eqV rfl rfl).to (v' := .bool true) (congrArg Value.bool (by rw [decide_eq_true_iff]; rw [hti] at hrel ⊢; exact ⟨hrel.r, hrel.ra⟩))) ?_
              refine gp_ev rfl (e_as) ?_
              refine gp_nil ?_
              refine gc_ret ?_
              exact ret1 (v := .bool true) (L1 := [A]) rfl (by (conv => lhs; whnf); try rfl) ⟨rfl, rfl⟩ (fun _ h => h.fin (by repeat ((conv => arg 1; whnf); (conv => arg 2; whnf); first | with_reducible exact .done | exact Fin.all _ | refine .cons (by repeat ((conv => arg 2; whnf); first | with_reducible exact .here | ((with_reducible refine Del.hereC ?_); rfl) | ((with_reducible refine Del.hereS ?_ ?_ ?_) <;> rfl) | exact .here | apply Del.there)) ?_ | refine .drop ?_)))
        · skip
          refine g_not ?_
          refine g_not ?_
          refine g_ev (e_pk rfl) ?_
          refine g_nil ?_
          refine gc_false ?_
          refine gc_exit ?_
          refine gc_seq ?_
          refine gc_seq ?_
          refine gc_region ?_
          refine g_ev (e_mv) ?_
          refine g_ev (e_len Try.underlying26 rfl) ?_
          refine g_ev (e_gt rfl rfl) ?_
          refine g_nil ?_
          first | refine gc_dec rfl (fun c69 => ?_) (fun c69 => ?_) | refine gc_ndec rfl (fun c69 => ?_) (fun c69 => ?_) | refine gc_cond rfl (fun c69 => ?_) (fun c69 => ?_)
          · skip
            refine gc_seq ?_
            refine gc_region ?_
            refine g_ev (e_as) ?_
            refine g_nil ?_
            refine gc_ret ?_
            exact ret1 (v := .bool true) (L1 := [A]) rfl (by (conv => lhs; whnf); try rfl) ⟨rfl, rfl⟩ (fun _ h => h.fin (by repeat ((conv => arg 1; whnf); (conv => arg 2; whnf); first | with_reducible exact .done | exact Fin.all _ | refine .cons (by repeat ((conv => arg 2; whnf); first | with_reducible exact .here | ((with_reducible refine Del.hereC ?_); rfl) | ((with_reducible refine Del.hereS ?_ ?_ ?_) <;> rfl) | exact .here | apply Del.there)) ?_ | refine .drop ?_)))
          · skip
            refine gc_skip ?_
            refine gc_seq ?_
            have hti : fs.take i = fs := List.take_of_length_le (by omega)
            have hrel := sees_rel (start_rel hw1 hw2) ((fs.take i).map fun x : FactV => x.f) (fun f hf => by obtain ⟨x, hx, rfl⟩ := List.mem_map.1 hf; exact (hok x (List.mem_of_mem_take hx)).2) (by simp only [List.length_map, List.length_take]; omega)
            refine gc_rjud (by repeat ((conv => arg 2; whnf); first | with_reducible exact .here | ((with_reducible refine Del.hereC ?_); rfl) | ((with_reducible refine Del.hereS ?_ ?_ ?_) <;> rfl) | exact .here | apply Del.there)) fun ls2 se2 ea2 ec2 sa2 sc2 ta2 tc2 _ _ _ => ?_
            refine gc_draw (D := [A, factsM la1 lc1 fs1]) (fin := none) (plan := [(true, 0), (true, 1), (true, 3), (true, 4), (true, 5), (true, 6), (false, 2), (true, 7), (true, 8)]) rfl (by kernel_rfl) (by kernel_rfl) rfl (.cons (by repeat ((conv => arg 2; whnf); first | with_reducible exact .here | ((with_reducible refine Del.hereC ?_); rfl) | ((with_reducible refine Del.hereS ?_ ?_ ?_) <;> rfl) | exact .here | apply Del.there)) (.cons (by repeat ((conv => arg 2; whnf); first | with_reducible exact .here | ((with_reducible refine Del.hereC ?_); rfl) | ((with_reducible refine Del.hereS ?_ ?_ ?_) <;> rfl) | exact .here | apply Del.there)) (.nil))) ?_
            refine gp_ev rfl (e_ldA Try.underlying25 rfl (by repeat ((conv => arg 2; whnf); first | with_reducible exact .here | ((with_reducible refine Del.hereC ?_); rfl) | ((with_reducible refine Del.hereS ?_ ?_ ?_) <;> rfl) | exact .here | apply Del.there)) Try.sizeOf25 (by first | exact Nat.le_of_ble_eq_true rfl | simp)) ?_
            refine gp_ev rfl (e_mv) ?_
            refine gp_ev rfl (e_mv) ?_
            refine gp_ev rfl (e_nc rfl) ?_
            refine gp_ev rfl (e_fa Try.underlying48 rfl rfl Try.sizeOf34) ?_
            refine gp_ev rfl ((e_ldA Try.underlying34 rfl (by repeat ((conv => arg 2; whnf); first | with_reducible exact .here | ((with_reducible refine Del.hereC ?_); rfl) | ((with_reducible refine Del.hereS ?_ ?_ ?_) <;> rfl) | exact .here | apply Del.there)) Try.sizeOf34 (by simp)).to (v' := .agg ⟨[.int .i64 ((RD.mk (rnewD hs ds) [] 0 0 0).sees ((fs.take i).map fun x : FactV => x.f)).r, .int .i64 ((RD.mk (rnewD hs ds) [] 0 0 0).sees ((fs.take i).map fun x : FactV => x.f)).ra]⟩) rfl) ?_
            refine gp_eff rfl (s_call (check_n (A := A) (A2 := factsM la1 lc1 fs1) (FS := (fs.map fun x : FactV => x.f)) ⟨_, _, _, _, _, rfl, (fun B w h => ⟨(hrd B w h).1.rdsW, (hrd B w h).2.rdsW⟩)⟩ (by omega) hl1 hm1 (fun B w h => factsM_rd h) (fun f hf => by obtain ⟨x, hx, rfl⟩ := List.mem_map.1 hf; exact hok x hx) (by rw [List.length_map]; omega)) (.cons (by repeat ((conv => arg 2; whnf); first | with_reducible exact .here | ((with_reducible refine Del.hereC ?_); rfl) | ((with_reducible refine Del.hereS ?_ ?_ ?_) <;> rfl) | exact .here | apply Del.there)) (.cons (by repeat ((conv => arg 2; whnf); first | with_reducible exact .here | ((with_reducible refine Del.hereC ?_); rfl) | ((with_reducible refine Del.hereS ?_ ?_ ?_) <;> rfl) | exact .here | apply Del.there)) (.nil)))) ?_
            rintro _ _ ⟨_, ⟨rfl, rfl⟩, rfl⟩
            refine gp_ev rfl ((e_eqV rfl rfl).to (v' := .bool true) (congrArg Value.bool (by rw [decide_eq_true_iff]; rw [hti] at hrel ⊢; exact ⟨hrel.r, hrel.ra⟩))) ?_
            refine gp_ev rfl (e_as) ?_
            refine gp_nil ?_
            refine gc_ret ?_
            exact ret1 (v := .bool true) (L1 := [A]) rfl (by (conv => lhs; whnf); try rfl) ⟨rfl, rfl⟩ (fun _ h => h.fin (by repeat ((conv => arg 1; whnf); (conv => arg 2; whnf); first | with_reducible exact .done | exact Fin.all _ | refine .cons (by repeat ((conv => arg 2; whnf); first | with_reducible exact .here | ((with_reducible refine Del.hereC ?_); rfl) | ((with_reducible refine Del.hereS ?_ ?_ ?_) <;> rfl) | exact .here | apply Del.there)) ?_ | refine .drop ?_)))

end Go.Proofs.Ythjimddhnlmlhaa
