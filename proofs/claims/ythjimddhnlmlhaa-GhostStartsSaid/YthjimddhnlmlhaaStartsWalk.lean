/- The walk of GhostStarts; no conditions. -/
import Derived.Test.YthjimddhnlmlhaaAwake
namespace Go.Proofs.Ythjimddhnlmlhaa
open Go.Vc
theorem pl325 : plOK Try.prog 25 #[(0, 1), (1, 1), (2, 1)] := by intro fs h w; rw [Try.underlying25] at h; cases h; simp
theorem pl334 : plOK Try.prog 34 #[(0, 1), (1, 1)] := by intro fs h w; rw [Try.underlying34] at h; cases h; simp
theorem pl343 : plOK Try.prog 43 #[(0, 1), (1, 1), (2, 1), (3, 1), (4, 1), (5, 1), (6, 1), (7, 1)] := by intro fs h w; rw [Try.underlying43] at h; cases h; simp

theorem maps_ok {fs : List FactV} (hok : ∀ x ∈ fs, x.f.ok) : ∀ f ∈ fs.map (fun x : FactV => x.f), f.ok := by
  intro f hf; obtain ⟨x, hx, rfl⟩ := List.mem_map.1 hf; exact hok x hx
theorem take_ok {fs : List FactV} (hok : ∀ x ∈ fs, x.f.ok) (k : Nat) : ∀ x ∈ fs.take k, x.f.ok := fun x hx => hok x (List.mem_of_mem_take hx)

set_option maxHeartbeats 4000000 in
theorem starts_t {A : HProp} {sa sb : Option Addr} {sc sd : Nat} {fs gs : List FactV} {cut : Int} (hfs : ∀ B w, Sat B w [A] → RdFs w sa fs) (hgs : ∀ B w, Sat B w [A] → RdFs w sb gs) (hsn : sa = none → fs.length = 0 ∧ sc = 0) (hsn2 : sb = none → gs.length = 0 ∧ sd = 0) (hcap : fs.length ≤ sc) (hok : ∀ x ∈ fs, x.f.ok) (hok2 : ∀ x ∈ gs, x.f.ok) (hn : fs.length * 72 ≤ 140737488355328) (hn2 : gs.length * 72 ≤ 140737488355328) : Tri Try.prog 4 #[.slice sa fs.length sc, .slice sb gs.length sd, .int .i64 cut] [A] (isR (.bool true) [A]) := by
  refine tri_of Try.call4 Try.func4 rfl fun B F => ?_
  refine gc_seq ?_
  refine gc_region ?_
  refine g_ev (e_as) ?_
  refine g_nil ?_
  refine gc_seq ?_
  refine gc_seq ?_
  refine gc_region ?_
  refine g_eff (s_call awake18_t .nil) ?_
  rintro _ _ ⟨_, ⟨rfl, rfl⟩, rfl⟩
  refine g_ev (e_not rfl) ?_
  refine g_nil ?_
  refine gc_false ?_
  refine gc_skip ?_
  refine gc_seq ?_
  refine gc_seq ?_
  refine gc_region ?_
  refine g_ev (e_mv) ?_
  refine g_ev (e_len Try.underlying26 rfl) ?_
  refine g_ev (e_gt rfl rfl) ?_
  refine g_ev (e_mv) ?_
  first | refine g_dec 15 rfl (fun c15 => ?_) (fun c15 => ?_) | refine g_ndec 15 rfl (fun c15 => ?_) (fun c15 => ?_) | refine g_bool 15 rfl (fun c15 => ?_) (fun c15 => ?_)
  · skip
    refine g_not ?_
    refine g_not ?_
    refine g_not ?_
    refine g_ev (e_pk rfl) ?_
    refine g_nil ?_
    refine gc_true ?_
    refine gc_seq ?_
    refine gc_region ?_
    refine g_ev (e_as) ?_
    refine g_nil ?_
    refine gc_ret ?_
    exact ret1 (v := .bool true) (L1 := [A]) rfl (by (conv => lhs; whnf); try rfl) ⟨rfl, rfl⟩ (fun _ h => h.fin (by repeat ((conv => arg 1; whnf); (conv => arg 2; whnf); first | with_reducible exact .done | exact Fin.all _ | refine .cons (by repeat ((conv => arg 2; whnf); first | with_reducible exact .here | ((with_reducible refine Del.hereC ?_); rfl) | ((with_reducible refine Del.hereS ?_ ?_ ?_) <;> rfl) | exact .here | apply Del.there)) ?_ | refine .drop ?_)))
  · skip
    refine g_ev (e_mv) ?_
    refine g_ev (e_len Try.underlying26 rfl) ?_
    refine g_ev (e_gt rfl rfl) ?_
    refine g_ev (e_pk rfl) ?_
    refine g_nil ?_
    first | refine gc_dec rfl (fun c19 => ?_) (fun c19 => ?_) | refine gc_ndec rfl (fun c19 => ?_) (fun c19 => ?_) | refine gc_cond rfl (fun c19 => ?_) (fun c19 => ?_)
    · skip
      refine gc_seq ?_
      refine gc_region ?_
      refine g_ev (e_as) ?_
      refine g_nil ?_
      refine gc_ret ?_
      exact ret1 (v := .bool true) (L1 := [A]) rfl (by (conv => lhs; whnf); try rfl) ⟨rfl, rfl⟩ (fun _ h => h.fin (by repeat ((conv => arg 1; whnf); (conv => arg 2; whnf); first | with_reducible exact .done | exact Fin.all _ | refine .cons (by repeat ((conv => arg 2; whnf); first | with_reducible exact .here | ((with_reducible refine Del.hereC ?_); rfl) | ((with_reducible refine Del.hereS ?_ ?_ ?_) <;> rfl) | exact .here | apply Del.there)) ?_ | refine .drop ?_)))
    · skip
      refine gc_skip ?_
      refine gc_seq ?_
      refine gc_region ?_
      refine g_eff (s_call pair1_t .nil) ?_
      rintro _ _ ⟨_, ⟨N, rfl, ah, ch, ad, cd, mx, rfl, hrd⟩, rfl⟩
      refine g_eff (s_al Try.zeroValue25) ?_
      rintro _ _ ⟨b7, rfl, rfl⟩
      refine g_eff (s_stA Try.sizeOf25 rfl rfl (by repeat ((conv => arg 3; whnf); first | with_reducible exact .here | apply Turn.there))) ?_
      rintro _ _ ⟨rfl, rfl⟩
      refine g_nil ?_
      refine gc_seq ?_
      refine gc_cut (fun E L => ∃ b8, E 0 = .slice sa fs.length sc ∧ E 1 = .slice sb gs.length sd ∧ E 2 = .int .i64 cut ∧ E 7 = .pointer (some ⟨b7, 0, none⟩) ∧ E 8 = .pointer (some ⟨b8, 0, none⟩) ∧ ∀ w, Sat B w L → Sat B w (blk b7 25 [.slice ah [10, 11].length ch, .slice ad [10, 11].length cd, .int .u32 mx] :: blk b8 34 [.int .i64 (checkP (fs.map fun x : FactV => x.f)).r, .int .i64 (checkP (fs.map fun x : FactV => x.f)).ra] :: N :: A :: F)) ?_ ?_
      · skip
        refine gt_draw (D := [N, A]) (fin := none) (plan := (.q 0 (.q 1 (.b 2 (.b 3 (.b 4 (.b 5 .e .e) .e) (.b 4 (.b 3 (.b 5 .e .e) .e) .e)) (.b 4 (.b 2 (.b 3 (.b 5 .e .e) .e) .e) .e))))) rfl (by kernel_rfl) (by kernel_rfl) rfl (.cons (by repeat ((conv => arg 2; whnf); first | with_reducible exact .here | ((with_reducible refine Del.hereC ?_); rfl) | ((with_reducible refine Del.hereS ?_ ?_ ?_) <;> rfl) | exact .here | apply Del.there)) (.cons (by repeat ((conv => arg 2; whnf); first | with_reducible exact .here | ((with_reducible refine Del.hereC ?_); rfl) | ((with_reducible refine Del.hereS ?_ ?_ ?_) <;> rfl) | exact .here | apply Del.there)) (.nil))) ?_
        refine gt_ev rfl (e_ldA Try.underlying25 rfl (by repeat ((conv => arg 2; whnf); first | with_reducible exact .here | ((with_reducible refine Del.hereC ?_); rfl) | ((with_reducible refine Del.hereS ?_ ?_ ?_) <;> rfl) | exact .here | apply Del.there)) Try.sizeOf25 (by simp)) ?_
        refine gt_ev rfl (e_mv) ?_
        refine gt_b2 ?_ ?_
        · skip
          refine alt_eff rfl (s_call (copied_t (fs := fs) hfs (fun h => (hsn h).2) hok (by first | omega | (simp only [List.length_take]; omega))) (.cons (by repeat ((conv => arg 2; whnf); first | with_reducible exact .here | ((with_reducible refine Del.hereC ?_); rfl) | ((with_reducible refine Del.hereS ?_ ?_ ?_) <;> rfl) | exact .here | apply Del.there)) (.nil))) ?_
          rintro _ _ ⟨_, ⟨la1, lc1, fs1, rfl, rfl, hm1⟩, rfl⟩
          refine gt_b2 ?_ ?_
          · skip
            refine alt_eff rfl (s_call (check_c (A := N) (A2 := factsM la1 lc1 fs1) (hs := [10, 11]) (ds := [10, 11]) (FS := (fs.map fun x : FactV => x.f)) ⟨ah, ch, ad, cd, mx, rfl, hrd⟩ (by decide) hm1 (fun B w h => factsM_rd h) (maps_ok hok) (by rw [List.length_map]; omega)) (.cons (by repeat ((conv => arg 2; whnf); first | with_reducible exact .here | ((with_reducible refine Del.hereC ?_); rfl) | ((with_reducible refine Del.hereS ?_ ?_ ?_) <;> rfl) | exact .here | apply Del.there)) (.cons (by repeat ((conv => arg 2; whnf); first | with_reducible exact .here | ((with_reducible refine Del.hereC ?_); rfl) | ((with_reducible refine Del.hereS ?_ ?_ ?_) <;> rfl) | exact .here | apply Del.there)) (.nil)))) ?_
            rintro _ _ ⟨_, ⟨rfl, rfl⟩, rfl⟩
            refine gt_eff rfl (s_al Try.zeroValue34) ?_
            rintro _ _ ⟨b8, rfl, rfl⟩
            refine gt_eff rfl (s_stA Try.sizeOf34 rfl rfl (by repeat ((conv => arg 3; whnf); first | with_reducible exact .here | apply Turn.there))) ?_
            rintro _ _ ⟨rfl, rfl⟩
            refine gt_nil ?_
            exact ⟨b8, (by (conv => lhs; whnf); try first | rfl | (refine congrArg Value.bool ?_; simp_all) | simp_all), (by (conv => lhs; whnf); try first | rfl | (refine congrArg Value.bool ?_; simp_all) | simp_all), (by (conv => lhs; whnf); try first | rfl | (refine congrArg Value.bool ?_; simp_all) | simp_all), (by (conv => lhs; whnf); try first | rfl | (refine congrArg Value.bool ?_; simp_all) | simp_all), (by (conv => lhs; whnf); try first | rfl | (refine congrArg Value.bool ?_; simp_all) | simp_all), (fun _ h => h.fin (L1 := [blk b7 25 [.slice ah [10, 11].length ch, .slice ad [10, 11].length cd, .int .u32 mx], blk b8 34 [.int .i64 (checkP (fs.map fun x : FactV => x.f)).r, .int .i64 (checkP (fs.map fun x : FactV => x.f)).ra], N, A]) (F := F) (by repeat ((conv => arg 1; whnf); (conv => arg 2; whnf); first | with_reducible exact .done | exact Fin.all _ | refine .cons (by repeat ((conv => arg 2; whnf); first | with_reducible exact .here | ((with_reducible refine Del.hereC ?_); rfl) | ((with_reducible refine Del.hereS ?_ ?_ ?_) <;> rfl) | exact .here | apply Del.there)) ?_ | refine .drop ?_)))⟩
          · skip
            refine alt_eff rfl (s_al Try.zeroValue34) ?_
            rintro _ _ ⟨b8, rfl, rfl⟩
            refine gt_eff rfl (s_call (check_c (A := N) (A2 := factsM la1 lc1 fs1) (hs := [10, 11]) (ds := [10, 11]) (FS := (fs.map fun x : FactV => x.f)) ⟨ah, ch, ad, cd, mx, rfl, hrd⟩ (by decide) hm1 (fun B w h => factsM_rd h) (maps_ok hok) (by rw [List.length_map]; omega)) (.cons (by repeat ((conv => arg 2; whnf); first | with_reducible exact .here | ((with_reducible refine Del.hereC ?_); rfl) | ((with_reducible refine Del.hereS ?_ ?_ ?_) <;> rfl) | exact .here | apply Del.there)) (.cons (by repeat ((conv => arg 2; whnf); first | with_reducible exact .here | ((with_reducible refine Del.hereC ?_); rfl) | ((with_reducible refine Del.hereS ?_ ?_ ?_) <;> rfl) | exact .here | apply Del.there)) (.nil)))) ?_
            rintro _ _ ⟨_, ⟨rfl, rfl⟩, rfl⟩
            refine gt_eff rfl (s_stA Try.sizeOf34 rfl rfl (by repeat ((conv => arg 3; whnf); first | with_reducible exact .here | apply Turn.there))) ?_
            rintro _ _ ⟨rfl, rfl⟩
            refine gt_nil ?_
            exact ⟨b8, (by (conv => lhs; whnf); try first | rfl | (refine congrArg Value.bool ?_; simp_all) | simp_all), (by (conv => lhs; whnf); try first | rfl | (refine congrArg Value.bool ?_; simp_all) | simp_all), (by (conv => lhs; whnf); try first | rfl | (refine congrArg Value.bool ?_; simp_all) | simp_all), (by (conv => lhs; whnf); try first | rfl | (refine congrArg Value.bool ?_; simp_all) | simp_all), (by (conv => lhs; whnf); try first | rfl | (refine congrArg Value.bool ?_; simp_all) | simp_all), (fun _ h => h.fin (L1 := [blk b7 25 [.slice ah [10, 11].length ch, .slice ad [10, 11].length cd, .int .u32 mx], blk b8 34 [.int .i64 (checkP (fs.map fun x : FactV => x.f)).r, .int .i64 (checkP (fs.map fun x : FactV => x.f)).ra], N, A]) (F := F) (by repeat ((conv => arg 1; whnf); (conv => arg 2; whnf); first | with_reducible exact .done | exact Fin.all _ | refine .cons (by repeat ((conv => arg 2; whnf); first | with_reducible exact .here | ((with_reducible refine Del.hereC ?_); rfl) | ((with_reducible refine Del.hereS ?_ ?_ ?_) <;> rfl) | exact .here | apply Del.there)) ?_ | refine .drop ?_)))⟩
        · skip
          refine alt_eff rfl (s_al Try.zeroValue34) ?_
          rintro _ _ ⟨b8, rfl, rfl⟩
          refine gt_eff rfl (s_call (copied_t (fs := fs) hfs (fun h => (hsn h).2) hok (by first | omega | (simp only [List.length_take]; omega))) (.cons (by repeat ((conv => arg 2; whnf); first | with_reducible exact .here | ((with_reducible refine Del.hereC ?_); rfl) | ((with_reducible refine Del.hereS ?_ ?_ ?_) <;> rfl) | exact .here | apply Del.there)) (.nil))) ?_
          rintro _ _ ⟨_, ⟨la1, lc1, fs1, rfl, rfl, hm1⟩, rfl⟩
          refine gt_eff rfl (s_call (check_c (A := N) (A2 := factsM la1 lc1 fs1) (hs := [10, 11]) (ds := [10, 11]) (FS := (fs.map fun x : FactV => x.f)) ⟨ah, ch, ad, cd, mx, rfl, hrd⟩ (by decide) hm1 (fun B w h => factsM_rd h) (maps_ok hok) (by rw [List.length_map]; omega)) (.cons (by repeat ((conv => arg 2; whnf); first | with_reducible exact .here | ((with_reducible refine Del.hereC ?_); rfl) | ((with_reducible refine Del.hereS ?_ ?_ ?_) <;> rfl) | exact .here | apply Del.there)) (.cons (by repeat ((conv => arg 2; whnf); first | with_reducible exact .here | ((with_reducible refine Del.hereC ?_); rfl) | ((with_reducible refine Del.hereS ?_ ?_ ?_) <;> rfl) | exact .here | apply Del.there)) (.nil)))) ?_
          rintro _ _ ⟨_, ⟨rfl, rfl⟩, rfl⟩
          refine gt_eff rfl (s_stA Try.sizeOf34 rfl rfl (by repeat ((conv => arg 3; whnf); first | with_reducible exact .here | apply Turn.there))) ?_
          rintro _ _ ⟨rfl, rfl⟩
          refine gt_nil ?_
          exact ⟨b8, (by (conv => lhs; whnf); try first | rfl | (refine congrArg Value.bool ?_; simp_all) | simp_all), (by (conv => lhs; whnf); try first | rfl | (refine congrArg Value.bool ?_; simp_all) | simp_all), (by (conv => lhs; whnf); try first | rfl | (refine congrArg Value.bool ?_; simp_all) | simp_all), (by (conv => lhs; whnf); try first | rfl | (refine congrArg Value.bool ?_; simp_all) | simp_all), (by (conv => lhs; whnf); try first | rfl | (refine congrArg Value.bool ?_; simp_all) | simp_all), (fun _ h => h.fin (L1 := [blk b7 25 [.slice ah [10, 11].length ch, .slice ad [10, 11].length cd, .int .u32 mx], blk b8 34 [.int .i64 (checkP (fs.map fun x : FactV => x.f)).r, .int .i64 (checkP (fs.map fun x : FactV => x.f)).ra], N, A]) (F := F) (by repeat ((conv => arg 1; whnf); (conv => arg 2; whnf); first | with_reducible exact .done | exact Fin.all _ | refine .cons (by repeat ((conv => arg 2; whnf); first | with_reducible exact .here | ((with_reducible refine Del.hereC ?_); rfl) | ((with_reducible refine Del.hereS ?_ ?_ ?_) <;> rfl) | exact .here | apply Del.there)) ?_ | refine .drop ?_)))⟩
      · rintro E L ⟨b8, s0, s1, s2, s7, s8, hL⟩
        refine gc_imp hL ?_
        refine gc_slot 0 _ ?_ s0
        refine gc_slot 1 _ ?_ s1
        refine gc_slot 2 _ ?_ s2
        refine gc_slot 7 _ ?_ s7
        refine gc_slot 8 _ ?_ s8
        clear hL s0 s1 s2 s7 s8
        refine gc_seq ?_
        refine gc_seq ?_
        refine gc_region ?_
        refine g_ev (e_fa Try.underlying34 rfl rfl Try.sizeOf3) ?_
        refine g_ev (e_ld Try.underlying3 rfl (by repeat ((conv => arg 2; whnf); first | with_reducible exact .here | ((with_reducible refine Del.hereC ?_); rfl) | ((with_reducible refine Del.hereS ?_ ?_ ?_) <;> rfl) | exact .here | apply Del.there)) rfl) ?_
        refine g_ev (e_ne rfl rfl) ?_
        refine g_nil ?_
        first | refine gc_dec rfl (fun c27 => ?_) (fun c27 => ?_) | refine gc_ndec rfl (fun c27 => ?_) (fun c27 => ?_) | refine gc_cond rfl (fun c27 => ?_) (fun c27 => ?_)
        · skip
          refine gc_seq ?_
          obtain ⟨k, hk, hra, hp1, hp2, hq1, hq2⟩ := starts_bad c27
          rw [List.length_map] at hk
          refine gc_draw (D := [N, A]) (fin := none) (plan := [(true, 0), (true, 1), (true, 3), (true, 7), (false, 2), (false, 4), (false, 5), (false, 6), (true, 8), (true, 9), (true, 10), (true, 11), (true, 12), (true, 13), (true, 14), (true, 17), (false, 15), (false, 16), (true, 18), (true, 19), (true, 20), (true, 21), (true, 22), (true, 23), (true, 24), (true, 25), (true, 26), (true, 29), (false, 27), (false, 28), (true, 30), (true, 31), (true, 32)]) rfl (by kernel_rfl) (by kernel_rfl) rfl (.cons (by repeat ((conv => arg 2; whnf); first | with_reducible exact .here | ((with_reducible refine Del.hereC ?_); rfl) | ((with_reducible refine Del.hereS ?_ ?_ ?_) <;> rfl) | exact .here | apply Del.there)) (.cons (by repeat ((conv => arg 2; whnf); first | with_reducible exact .here | ((with_reducible refine Del.hereC ?_); rfl) | ((with_reducible refine Del.hereS ?_ ?_ ?_) <;> rfl) | exact .here | apply Del.there)) (.nil))) ?_
          refine gp_ev rfl (e_ldA Try.underlying25 rfl (by repeat ((conv => arg 2; whnf); first | with_reducible exact .here | ((with_reducible refine Del.hereC ?_); rfl) | ((with_reducible refine Del.hereS ?_ ?_ ?_) <;> rfl) | exact .here | apply Del.there)) Try.sizeOf25 (by simp)) ?_
          refine gp_ev rfl (e_mv) ?_
          refine gp_ev rfl (e_mv) ?_
          refine gp_ev rfl (e_ldA Try.underlying34 rfl (by repeat ((conv => arg 2; whnf); first | with_reducible exact .here | ((with_reducible refine Del.hereC ?_); rfl) | ((with_reducible refine Del.hereS ?_ ?_ ?_) <;> rfl) | exact .here | apply Del.there)) Try.sizeOf34 (by simp)) ?_
          refine gp_eff rfl (s_call (copied_t (fs := fs) hfs (fun h => (hsn h).2) hok (by first | omega | (simp only [List.length_take]; omega))) (.cons (by repeat ((conv => arg 2; whnf); first | with_reducible exact .here | ((with_reducible refine Del.hereC ?_); rfl) | ((with_reducible refine Del.hereS ?_ ?_ ?_) <;> rfl) | exact .here | apply Del.there)) (.nil))) ?_
          rintro _ _ ⟨_, ⟨la2, lc2, fs2, rfl, rfl, hm2⟩, rfl⟩
          refine gp_eff rfl (s_call (copied_t (fs := gs) hgs (fun h => (hsn2 h).2) hok2 (by first | omega | (simp only [List.length_take]; omega))) (.cons (by repeat ((conv => arg 2; whnf); first | with_reducible exact .here | ((with_reducible refine Del.hereC ?_); rfl) | ((with_reducible refine Del.hereS ?_ ?_ ?_) <;> rfl) | exact .here | apply Del.there)) (.nil))) ?_
          rintro _ _ ⟨_, ⟨la3, lc3, fs3, rfl, rfl, hm3⟩, rfl⟩
          refine gp_imp (D' := [sown 43 8 (.slice la2 fs2.length lc2) fs2.length (fcells fs2), sown 43 8 (.slice la3 fs3.length lc3) fs3.length (fcells fs3), ownD fs2, ownD fs3, N, A]) (fun w h => ?_) ?_
          · have h1 := Sat.unpack (h.fin (L1 := [factsM la2 lc2 fs2, factsM la3 lc3 fs3, N, A, blk b7 25 [.slice ah [10, 11].length ch, .slice ad [10, 11].length cd, .int .u32 mx], blk b8 34 [.int .i64 (checkP (fs.map fun x : FactV => x.f)).r, .int .i64 (checkP (fs.map fun x : FactV => x.f)).ra]]) (F := F) (by repeat ((conv => arg 1; whnf); (conv => arg 2; whnf); first | with_reducible exact .done | exact Fin.all _ | refine .cons (by repeat ((conv => arg 2; whnf); first | with_reducible exact .here | ((with_reducible refine Del.hereC ?_); rfl) | ((with_reducible refine Del.hereS ?_ ?_ ?_) <;> rfl) | exact .here | apply Del.there)) ?_ | refine .drop ?_)))
            have h2 := Sat.unpack (h1.fin (L1 := [factsM la3 lc3 fs3, sown 43 8 (.slice la2 fs2.length lc2) fs2.length (fcells fs2), ownD fs2, N, A, blk b7 25 [.slice ah [10, 11].length ch, .slice ad [10, 11].length cd, .int .u32 mx], blk b8 34 [.int .i64 (checkP (fs.map fun x : FactV => x.f)).r, .int .i64 (checkP (fs.map fun x : FactV => x.f)).ra]]) (F := F) (by repeat ((conv => arg 1; whnf); (conv => arg 2; whnf); first | with_reducible exact .done | exact Fin.all _ | refine .cons (by repeat ((conv => arg 2; whnf); first | with_reducible exact .here | ((with_reducible refine Del.hereC ?_); rfl) | ((with_reducible refine Del.hereS ?_ ?_ ?_) <;> rfl) | exact .here | apply Del.there)) ?_ | refine .drop ?_)))
            exact h2.fin (L1 := [sown 43 8 (.slice la2 fs2.length lc2) fs2.length (fcells fs2), sown 43 8 (.slice la3 fs3.length lc3) fs3.length (fcells fs3), ownD fs2, ownD fs3, N, A, blk b7 25 [.slice ah [10, 11].length ch, .slice ad [10, 11].length cd, .int .u32 mx], blk b8 34 [.int .i64 (checkP (fs.map fun x : FactV => x.f)).r, .int .i64 (checkP (fs.map fun x : FactV => x.f)).ra]]) (F := F) (by repeat ((conv => arg 1; whnf); (conv => arg 2; whnf); first | with_reducible exact .done | exact Fin.all _ | refine .cons (by repeat ((conv => arg 2; whnf); first | with_reducible exact .here | ((with_reducible refine Del.hereC ?_); rfl) | ((with_reducible refine Del.hereS ?_ ?_ ?_) <;> rfl) | exact .here | apply Del.there)) ?_ | refine .drop ?_))
          refine gp_eff rfl (s_ap (bytes := 72) (k := 8) Try.underlying26 info43 rfl rfl rfl rfl (by decide) rfl rfl (by repeat ((conv => arg 2; whnf); first | with_reducible exact .here | ((with_reducible refine Del.hereC ?_); rfl) | ((with_reducible refine Del.hereS ?_ ?_ ?_) <;> rfl) | exact .here | apply Del.there)) (fun B w h => h.rds (by repeat ((conv => arg 2; whnf); first | with_reducible exact .here | ((with_reducible refine Del.hereC ?_); rfl) | ((with_reducible refine Del.hereS ?_ ?_ ?_) <;> rfl) | exact .here | apply Del.there))) (fcells_one fs3) (by have e2 := len_of_map hm2; have e3 := len_of_map hm3; omega) (by have e2 := len_of_map hm2; have e3 := len_of_map hm3; unfold maxLen; omega)) ?_
          rintro _ _ ⟨la4, lc4, rfl, rfl, hn4⟩
          rw [← List.length_append]
          refine gp_imp (D' := [factsM la4 lc4 (fs2 ++ fs3), N, A]) (fun w h => ?_) ?_
          · have h1 := app_shut (fs := fs2) (gs := fs3) List.length_append (h.fin (L1 := [sown 43 8 (.slice la4 (fs2 ++ fs3).length lc4) (fs2 ++ fs3).length (fcells fs2 ++ fcells fs3), ownD fs2, ownD fs3, N, A, blk b7 25 [.slice ah [10, 11].length ch, .slice ad [10, 11].length cd, .int .u32 mx], blk b8 34 [.int .i64 (checkP (fs.map fun x : FactV => x.f)).r, .int .i64 (checkP (fs.map fun x : FactV => x.f)).ra]]) (F := F) (by repeat ((conv => arg 1; whnf); (conv => arg 2; whnf); first | with_reducible exact .done | exact Fin.all _ | refine .cons (by repeat ((conv => arg 2; whnf); first | with_reducible exact .here | ((with_reducible refine Del.hereC ?_); rfl) | ((with_reducible refine Del.hereS ?_ ?_ ?_) <;> rfl) | exact .here | apply Del.there)) ?_ | refine .drop ?_)))
            exact h1.fin (L1 := [factsM la4 lc4 (fs2 ++ fs3), N, A, blk b7 25 [.slice ah [10, 11].length ch, .slice ad [10, 11].length cd, .int .u32 mx], blk b8 34 [.int .i64 (checkP (fs.map fun x : FactV => x.f)).r, .int .i64 (checkP (fs.map fun x : FactV => x.f)).ra]]) (F := F) (by repeat ((conv => arg 1; whnf); (conv => arg 2; whnf); first | with_reducible exact .done | exact Fin.all _ | refine .cons (by repeat ((conv => arg 2; whnf); first | with_reducible exact .here | ((with_reducible refine Del.hereC ?_); rfl) | ((with_reducible refine Del.hereS ?_ ?_ ?_) <;> rfl) | exact .here | apply Del.there)) ?_ | refine .drop ?_))
          refine gp_eff rfl (s_call (check_c (A := N) (A2 := factsM la4 lc4 (fs2 ++ fs3)) (hs := [10, 11]) (ds := [10, 11]) (FS := ((fs.map fun x : FactV => x.f) ++ gs.map fun x : FactV => x.f)) ⟨ah, ch, ad, cd, mx, rfl, hrd⟩ (by decide) (by rw [List.map_append, hm2, hm3]) (fun B w h => factsM_rd h) (fun f hf => (List.mem_append.1 hf).elim (maps_ok hok f) (maps_ok hok2 f)) (by rw [List.length_append, List.length_map, List.length_map]; omega)) (.cons (by repeat ((conv => arg 2; whnf); first | with_reducible exact .here | ((with_reducible refine Del.hereC ?_); rfl) | ((with_reducible refine Del.hereS ?_ ?_ ?_) <;> rfl) | exact .here | apply Del.there)) (.cons (by repeat ((conv => arg 2; whnf); first | with_reducible exact .here | ((with_reducible refine Del.hereC ?_); rfl) | ((with_reducible refine Del.hereS ?_ ?_ ?_) <;> rfl) | exact .here | apply Del.there)) (.nil)))) ?_
          rintro _ _ ⟨_, ⟨rfl, rfl⟩, rfl⟩
          refine gp_ev rfl ((e_eqV rfl rfl).to (v' := .bool true) (congrArg Value.bool (decide_eq_true (starts_more c27)))) ?_
          refine gp_ev rfl (e_mv) ?_
          refine gp_ev rfl (e_ldA Try.underlying25 rfl (by repeat ((conv => arg 2; whnf); first | with_reducible exact .here | ((with_reducible refine Del.hereC ?_); rfl) | ((with_reducible refine Del.hereS ?_ ?_ ?_) <;> rfl) | exact .here | apply Del.there)) Try.sizeOf25 (by simp)) ?_
          refine gp_ev rfl (e_mv) ?_
          refine gp_ev rfl (e_fa Try.underlying34 rfl rfl Try.sizeOf3) ?_
          refine gp_ev rfl ((e_ld Try.underlying3 rfl (by repeat ((conv => arg 2; whnf); first | with_reducible exact .here | ((with_reducible refine Del.hereC ?_); rfl) | ((with_reducible refine Del.hereS ?_ ?_ ?_) <;> rfl) | exact .here | apply Del.there)) rfl).to (v' := .int .i64 (k : Int)) (congrArg _ hra)) ?_
          refine gp_ev rfl ((e_slO (hi := k) Try.underlying26 Try.sizeOf43 rfl hsn rfl (by omega)).to (v' := .slice sa (fs.take (k)).length sc) (by rw [List.length_take, Nat.min_eq_left (by omega)])) ?_
          refine gp_ev rfl ((e_bd Try.underlying34 Try.zeroValue34 pl334 rfl).to (v' := .agg ⟨[.int .i64 0, .int .i64 0]⟩) rfl) ?_
          refine gp_eff rfl (s_call (copied_t (fs := (fs.take k)) (fun B w h => (hfs B w h).take k) (fun h => (hsn h).2) (take_ok hok k) (by first | omega | (simp only [List.length_take]; omega))) (.cons (by repeat ((conv => arg 2; whnf); first | with_reducible exact .here | ((with_reducible refine Del.hereC ?_); rfl) | ((with_reducible refine Del.hereS ?_ ?_ ?_) <;> rfl) | exact .here | apply Del.there)) (.nil))) ?_
          rintro _ _ ⟨_, ⟨la5, lc5, fs5, rfl, rfl, hm5⟩, rfl⟩
          refine gp_eff rfl (s_call (check_c (A := N) (A2 := factsM la5 lc5 fs5) (hs := [10, 11]) (ds := [10, 11]) (FS := ((fs.map fun x : FactV => x.f).take k)) ⟨ah, ch, ad, cd, mx, rfl, hrd⟩ (by decide) (by rw [hm5, List.map_take]) (fun B w h => factsM_rd h) (fun f hf => maps_ok hok f (List.mem_of_mem_take hf)) (by rw [List.length_take, List.length_map]; omega)) (.cons (by repeat ((conv => arg 2; whnf); first | with_reducible exact .here | ((with_reducible refine Del.hereC ?_); rfl) | ((with_reducible refine Del.hereS ?_ ?_ ?_) <;> rfl) | exact .here | apply Del.there)) (.cons (by repeat ((conv => arg 2; whnf); first | with_reducible exact .here | ((with_reducible refine Del.hereC ?_); rfl) | ((with_reducible refine Del.hereS ?_ ?_ ?_) <;> rfl) | exact .here | apply Del.there)) (.nil)))) ?_
          rintro _ _ ⟨_, ⟨rfl, rfl⟩, rfl⟩
          refine gp_ev rfl ((e_eqV rfl rfl).to (v' := .bool true) (congrArg Value.bool (decide_eq_true ⟨hp1, hp2⟩))) ?_
          refine gp_ev rfl (e_pk rfl) ?_
          refine gp_ev rfl (e_mv) ?_
          refine gp_ev rfl (e_ldA Try.underlying25 rfl (by repeat ((conv => arg 2; whnf); first | with_reducible exact .here | ((with_reducible refine Del.hereC ?_); rfl) | ((with_reducible refine Del.hereS ?_ ?_ ?_) <;> rfl) | exact .here | apply Del.there)) Try.sizeOf25 (by simp)) ?_
          refine gp_ev rfl (e_mv) ?_
          refine gp_ev rfl (e_fa Try.underlying34 rfl rfl Try.sizeOf3) ?_
          refine gp_ev rfl ((e_ld Try.underlying3 rfl (by repeat ((conv => arg 2; whnf); first | with_reducible exact .here | ((with_reducible refine Del.hereC ?_); rfl) | ((with_reducible refine Del.hereS ?_ ?_ ?_) <;> rfl) | exact .here | apply Del.there)) rfl).to (v' := .int .i64 (k : Int)) (congrArg _ hra)) ?_
          refine gp_ev rfl ((e_addw rfl rfl).to (v' := .int .i64 ((k + 1 : Nat) : Int)) (congrArg _ (wrapN (by omega) (by omega)))) ?_
          refine gp_ev rfl ((e_slO (hi := k + 1) Try.underlying26 Try.sizeOf43 rfl hsn rfl (by omega)).to (v' := .slice sa (fs.take (k + 1)).length sc) (by rw [List.length_take, Nat.min_eq_left (by omega)])) ?_
          refine gp_ev rfl (e_ldA Try.underlying34 rfl (by repeat ((conv => arg 2; whnf); first | with_reducible exact .here | ((with_reducible refine Del.hereC ?_); rfl) | ((with_reducible refine Del.hereS ?_ ?_ ?_) <;> rfl) | exact .here | apply Del.there)) Try.sizeOf34 (by simp)) ?_
          refine gp_eff rfl (s_call (copied_t (fs := (fs.take (k + 1))) (fun B w h => (hfs B w h).take (k + 1)) (fun h => (hsn h).2) (take_ok hok (k + 1)) (by first | omega | (simp only [List.length_take]; omega))) (.cons (by repeat ((conv => arg 2; whnf); first | with_reducible exact .here | ((with_reducible refine Del.hereC ?_); rfl) | ((with_reducible refine Del.hereS ?_ ?_ ?_) <;> rfl) | exact .here | apply Del.there)) (.nil))) ?_
          rintro _ _ ⟨_, ⟨la6, lc6, fs6, rfl, rfl, hm6⟩, rfl⟩
          refine gp_eff rfl (s_call (check_c (A := N) (A2 := factsM la6 lc6 fs6) (hs := [10, 11]) (ds := [10, 11]) (FS := ((fs.map fun x : FactV => x.f).take (k + 1))) ⟨ah, ch, ad, cd, mx, rfl, hrd⟩ (by decide) (by rw [hm6, List.map_take]) (fun B w h => factsM_rd h) (fun f hf => maps_ok hok f (List.mem_of_mem_take hf)) (by rw [List.length_take, List.length_map]; omega)) (.cons (by repeat ((conv => arg 2; whnf); first | with_reducible exact .here | ((with_reducible refine Del.hereC ?_); rfl) | ((with_reducible refine Del.hereS ?_ ?_ ?_) <;> rfl) | exact .here | apply Del.there)) (.cons (by repeat ((conv => arg 2; whnf); first | with_reducible exact .here | ((with_reducible refine Del.hereC ?_); rfl) | ((with_reducible refine Del.hereS ?_ ?_ ?_) <;> rfl) | exact .here | apply Del.there)) (.nil)))) ?_
          rintro _ _ ⟨_, ⟨rfl, rfl⟩, rfl⟩
          refine gp_ev rfl ((e_eqV rfl rfl).to (v' := .bool true) (congrArg Value.bool (decide_eq_true ⟨hq1, hq2⟩))) ?_
          refine gp_ev rfl (e_pk rfl) ?_
          refine gp_ev rfl (e_as) ?_
          refine gp_nil ?_
          refine gc_ret ?_
          exact ret1 (v := .bool true) (L1 := [A]) rfl (by (conv => lhs; whnf); try rfl) ⟨rfl, rfl⟩ (fun _ h => h.fin (by repeat ((conv => arg 1; whnf); (conv => arg 2; whnf); first | with_reducible exact .done | exact Fin.all _ | refine .cons (by repeat ((conv => arg 2; whnf); first | with_reducible exact .here | ((with_reducible refine Del.hereC ?_); rfl) | ((with_reducible refine Del.hereS ?_ ?_ ?_) <;> rfl) | exact .here | apply Del.there)) ?_ | refine .drop ?_)))
        · skip
          refine gc_skip ?_
          refine gc_seq ?_
          refine gc_region ?_
          refine g_ev (e_as) ?_
          refine g_nil ?_
          refine gc_seq ?_
          refine gc_seq ?_
          refine gc_region ?_
          refine g_ev (e_mv) ?_
          refine g_ev (e_len Try.underlying26 rfl) ?_
          refine g_ev (e_gt rfl rfl) ?_
          refine g_nil ?_
          first | refine gc_dec rfl (fun c62 => ?_) (fun c62 => ?_) | refine gc_ndec rfl (fun c62 => ?_) (fun c62 => ?_) | refine gc_cond rfl (fun c62 => ?_) (fun c62 => ?_)
          · skip
            refine gc_region ?_
            obtain ⟨k, hk, hkr⟩ := rem_nat cut (n := fs.length) (by omega) (by omega)
            refine g_ev (e_mv) ?_
            refine g_ev (e_cv Try.underlying3 Try.underlying51 rfl) ?_
            refine g_ev (e_mv) ?_
            refine g_ev (e_len Try.underlying26 rfl) ?_
            refine g_ev (e_cv Try.underlying3 Try.underlying51 rfl) ?_
            refine g_ev (e_rem rfl rfl (by simp only [IntKind.wrap, IntKind.bits, IntKind.signed]; simp; omega)) ?_
            refine g_ev ((e_cv Try.underlying51 Try.underlying3 rfl).to (v' := .int .i64 (k : Int)) (congrArg _ hkr)) ?_
            refine g_ev (e_as) ?_
            refine g_nil ?_
            refine gc_seq ?_
            refine gc_draw (D := [N, A]) (fin := none) (plan := [(true, 0), (true, 1), (true, 2), (true, 3), (true, 6), (false, 4), (false, 5), (true, 7), (true, 8)]) rfl (by kernel_rfl) (by kernel_rfl) rfl (.cons (by repeat ((conv => arg 2; whnf); first | with_reducible exact .here | ((with_reducible refine Del.hereC ?_); rfl) | ((with_reducible refine Del.hereS ?_ ?_ ?_) <;> rfl) | exact .here | apply Del.there)) (.cons (by repeat ((conv => arg 2; whnf); first | with_reducible exact .here | ((with_reducible refine Del.hereC ?_); rfl) | ((with_reducible refine Del.hereS ?_ ?_ ?_) <;> rfl) | exact .here | apply Del.there)) (.nil))) ?_
            refine gp_ev rfl (e_ldA Try.underlying25 rfl (by repeat ((conv => arg 2; whnf); first | with_reducible exact .here | ((with_reducible refine Del.hereC ?_); rfl) | ((with_reducible refine Del.hereS ?_ ?_ ?_) <;> rfl) | exact .here | apply Del.there)) Try.sizeOf25 (by simp)) ?_
            refine gp_ev rfl (e_mv) ?_
            refine gp_ev rfl (e_mv) ?_
            refine gp_ev rfl ((e_slO (hi := k) Try.underlying26 Try.sizeOf43 rfl hsn rfl (by omega)).to (v' := .slice sa (fs.take (k)).length sc) (by rw [List.length_take, Nat.min_eq_left (by omega)])) ?_
            refine gp_ev rfl ((e_bd Try.underlying34 Try.zeroValue34 pl334 rfl).to (v' := .agg ⟨[.int .i64 0, .int .i64 0]⟩) rfl) ?_
            refine gp_eff rfl (s_call (copied_t (fs := (fs.take k)) (fun B w h => (hfs B w h).take k) (fun h => (hsn h).2) (take_ok hok k) (by first | omega | (simp only [List.length_take]; omega))) (.cons (by repeat ((conv => arg 2; whnf); first | with_reducible exact .here | ((with_reducible refine Del.hereC ?_); rfl) | ((with_reducible refine Del.hereS ?_ ?_ ?_) <;> rfl) | exact .here | apply Del.there)) (.nil))) ?_
            rintro _ _ ⟨_, ⟨la7, lc7, fs7, rfl, rfl, hm7⟩, rfl⟩
            refine gp_eff rfl (s_call (check_c (A := N) (A2 := factsM la7 lc7 fs7) (hs := [10, 11]) (ds := [10, 11]) (FS := ((fs.map fun x : FactV => x.f).take k)) ⟨ah, ch, ad, cd, mx, rfl, hrd⟩ (by decide) (by rw [hm7, List.map_take]) (fun B w h => factsM_rd h) (fun f hf => maps_ok hok f (List.mem_of_mem_take hf)) (by rw [List.length_take, List.length_map]; omega)) (.cons (by repeat ((conv => arg 2; whnf); first | with_reducible exact .here | ((with_reducible refine Del.hereC ?_); rfl) | ((with_reducible refine Del.hereS ?_ ?_ ?_) <;> rfl) | exact .here | apply Del.there)) (.cons (by repeat ((conv => arg 2; whnf); first | with_reducible exact .here | ((with_reducible refine Del.hereC ?_); rfl) | ((with_reducible refine Del.hereS ?_ ?_ ?_) <;> rfl) | exact .here | apply Del.there)) (.nil)))) ?_
            rintro _ _ ⟨_, ⟨rfl, rfl⟩, rfl⟩
            refine gp_ev rfl ((e_eqV rfl rfl).to (v' := .bool true) (congrArg Value.bool (decide_eq_true (starts_good (by simpa using c27) k)))) ?_
            refine gp_ev rfl (e_as) ?_
            refine gp_nil ?_
            refine gc_ret ?_
            exact ret1 (v := .bool true) (L1 := [A]) rfl (by (conv => lhs; whnf); try rfl) ⟨rfl, rfl⟩ (fun _ h => h.fin (by repeat ((conv => arg 1; whnf); (conv => arg 2; whnf); first | with_reducible exact .done | exact Fin.all _ | refine .cons (by repeat ((conv => arg 2; whnf); first | with_reducible exact .here | ((with_reducible refine Del.hereC ?_); rfl) | ((with_reducible refine Del.hereS ?_ ?_ ?_) <;> rfl) | exact .here | apply Del.there)) ?_ | refine .drop ?_)))
          · skip
            refine gc_skip ?_
            refine gc_seq ?_
            refine gc_draw (D := [N, A]) (fin := none) (plan := [(true, 0), (true, 1), (true, 2), (true, 3), (true, 6), (false, 4), (false, 5), (true, 7), (true, 8)]) rfl (by kernel_rfl) (by kernel_rfl) rfl (.cons (by repeat ((conv => arg 2; whnf); first | with_reducible exact .here | ((with_reducible refine Del.hereC ?_); rfl) | ((with_reducible refine Del.hereS ?_ ?_ ?_) <;> rfl) | exact .here | apply Del.there)) (.cons (by repeat ((conv => arg 2; whnf); first | with_reducible exact .here | ((with_reducible refine Del.hereC ?_); rfl) | ((with_reducible refine Del.hereS ?_ ?_ ?_) <;> rfl) | exact .here | apply Del.there)) (.nil))) ?_
            refine gp_ev rfl (e_ldA Try.underlying25 rfl (by repeat ((conv => arg 2; whnf); first | with_reducible exact .here | ((with_reducible refine Del.hereC ?_); rfl) | ((with_reducible refine Del.hereS ?_ ?_ ?_) <;> rfl) | exact .here | apply Del.there)) Try.sizeOf25 (by simp)) ?_
            refine gp_ev rfl (e_mv) ?_
            refine gp_ev rfl (e_mv) ?_
            refine gp_ev rfl ((e_slO (hi := 0) Try.underlying26 Try.sizeOf43 rfl hsn rfl (by omega)).to (v' := .slice sa (fs.take (0)).length sc) (by rw [List.length_take, Nat.min_eq_left (by omega)])) ?_
            refine gp_ev rfl ((e_bd Try.underlying34 Try.zeroValue34 pl334 rfl).to (v' := .agg ⟨[.int .i64 0, .int .i64 0]⟩) rfl) ?_
            refine gp_eff rfl (s_call (copied_t (fs := (fs.take 0)) (fun B w h => (hfs B w h).take 0) (fun h => (hsn h).2) (take_ok hok 0) (by first | omega | (simp only [List.length_take]; omega))) (.cons (by repeat ((conv => arg 2; whnf); first | with_reducible exact .here | ((with_reducible refine Del.hereC ?_); rfl) | ((with_reducible refine Del.hereS ?_ ?_ ?_) <;> rfl) | exact .here | apply Del.there)) (.nil))) ?_
            rintro _ _ ⟨_, ⟨la7, lc7, fs7, rfl, rfl, hm7⟩, rfl⟩
            refine gp_eff rfl (s_call (check_c (A := N) (A2 := factsM la7 lc7 fs7) (hs := [10, 11]) (ds := [10, 11]) (FS := ((fs.map fun x : FactV => x.f).take 0)) ⟨ah, ch, ad, cd, mx, rfl, hrd⟩ (by decide) (by rw [hm7, List.map_take]) (fun B w h => factsM_rd h) (fun f hf => maps_ok hok f (List.mem_of_mem_take hf)) (by rw [List.length_take, List.length_map]; omega)) (.cons (by repeat ((conv => arg 2; whnf); first | with_reducible exact .here | ((with_reducible refine Del.hereC ?_); rfl) | ((with_reducible refine Del.hereS ?_ ?_ ?_) <;> rfl) | exact .here | apply Del.there)) (.cons (by repeat ((conv => arg 2; whnf); first | with_reducible exact .here | ((with_reducible refine Del.hereC ?_); rfl) | ((with_reducible refine Del.hereS ?_ ?_ ?_) <;> rfl) | exact .here | apply Del.there)) (.nil)))) ?_
            rintro _ _ ⟨_, ⟨rfl, rfl⟩, rfl⟩
            refine gp_ev rfl ((e_eqV rfl rfl).to (v' := .bool true) (congrArg Value.bool (decide_eq_true (starts_good (by simpa using c27) 0)))) ?_
            refine gp_ev rfl (e_as) ?_
            refine gp_nil ?_
            refine gc_ret ?_
            exact ret1 (v := .bool true) (L1 := [A]) rfl (by (conv => lhs; whnf); try rfl) ⟨rfl, rfl⟩ (fun _ h => h.fin (by repeat ((conv => arg 1; whnf); (conv => arg 2; whnf); first | with_reducible exact .done | exact Fin.all _ | refine .cons (by repeat ((conv => arg 2; whnf); first | with_reducible exact .here | ((with_reducible refine Del.hereC ?_); rfl) | ((with_reducible refine Del.hereS ?_ ?_ ?_) <;> rfl) | exact .here | apply Del.there)) ?_ | refine .drop ?_)))

end Go.Proofs.Ythjimddhnlmlhaa
