/- The walk of New; no conditions. -/
import Derived.Test.YthjimddhnlmlhaaSee
import Derived.Test.YthjimddhnlmlhaaVc
namespace Go.Proofs.Ythjimddhnlmlhaa
open Go.Vc
theorem pl058 : plOK Try.prog 58 #[(0, 1), (1, 1), (2, 2)] := by intro fs h w; rw [Try.underlying58] at h; cases h; simp
theorem pl064 : plOK Try.prog 64 #[(0, 20), (20, 1), (21, 1)] := by intro fs h w; rw [Try.underlying64] at h; cases h; simp

theorem newD_take {hs ds : List Int} {i : Nat} {x y : Int} (hx : hs[i]? = some x) (hy : ds[i]? = some y) : (newD hs ds).take (i + 1) = (newD hs ds).take i ++ [LineS.new x y] := by
  rw [List.take_add_one]
  congr 1
  unfold newD
  rw [List.getElem?_map, (List.getElem?_zip_eq_some (z := (x, y))).2 ⟨hx, hy⟩]
  rfl
theorem newD_len (hs ds : List Int) : (newD hs ds).length = min hs.length ds.length := by simp [newD]
theorem rdsW_some {w : World} {ah ad : Option Addr} {hs ds : List Int} (h : RdsW w ah hs ∧ RdsW w ad ds) {n : Nat} {x y : Int} (hx : hs[n]? = some x) (hy : ds[n]? = some y) : (∃ p, ah = some p) ∧ (∃ p, ad = some p) := by
  constructor
  · cases ah with
    | none => rw [h.1.1 rfl] at hx; cases hx
    | some p => exact ⟨p, rfl⟩
  · cases ad with
    | none => rw [h.2.1 rfl] at hy; cases hy
    | some p => exact ⟨p, rfl⟩
theorem new_own (w : Int) (f) (h : sepL [] f) : (EndS.new w).own f := nil_fold f h
theorem new_shut {B w : World} {F : List HProp} {ls : List LineS} {bm : Nat} {x y : Int} {R1 R2 R3 A : HProp} (h : Sat B w (R1 :: R2 :: R3 :: ownLs ls :: setB kv (.bool true) bm [] 0 :: A :: F)) : Sat B w (R1 :: R2 :: R3 :: ownLs (ls ++ [(⟨EndS.new x, EndS.new y, 0, bm, [], 0⟩ : LineS)]) :: A :: F) := by
  have h5 := h.fin (L1 := [ownLs ls, (EndS.new x).own, (EndS.new y).own, (⟨EndS.new x, EndS.new y, 0, bm, [], 0⟩ : LineS).setP, ownLs [], R1, R2, R3, A]) (F := F)
    (.cons (.there (.there (.there .here))) (.fold (M := []) (new_own x) (.fold (M := []) (new_own y) (.cons (.there (.there (.there .here))) (.fold (M := []) ownLs_nil (.cons .here (.cons .here (.cons .here (.cons .here .done)))))))))
  have h6 := ownLs_join (l1 := ls) (l2 := []) (l := (⟨EndS.new x, EndS.new y, 0, bm, [], 0⟩ : LineS)) h5
  exact h6.fin (L1 := [R1, R2, R3, _, A]) (F := F) (.cons (.there .here) (.cons (.there .here) (.cons (.there .here) (.cons .here (.cons .here .done)))))
theorem lcells_snoc (ls : List LineS) (l : LineS) : lcells (ls ++ [l]) = lcells ls ++ l.cells := by simp [lcells]

set_option maxHeartbeats 2000000 in
theorem new_t {A : HProp} {ah ad : Option Addr} {hs ds : List Int} {ch cd : Nat} {mx : Int} (hrd : ∀ B w, Sat B w [A] → RdsW w ah hs ∧ RdsW w ad ds) (hl : hs.length ≤ 1000) : Tri Try.prog 8 #[.agg ⟨[.slice ah hs.length ch, .slice ad ds.length cd, .int .u32 mx]⟩] [A] (fun v L => ∃ bj, v = .pointer (some ⟨bj, 0, none⟩) ∧ L = [jud bj ⟨newD hs ds, 0, 0, 0⟩, A]) := by
  refine tri_of Try.call8 Try.func8 rfl fun B F => ?_
  refine gc_seq ?_
  refine gc_region ?_
  refine g_eff (s_bx) ?_
  rintro _ _ ⟨b1, rfl, rfl⟩
  refine g_ev (e_as) ?_
  refine g_nil ?_
  refine gc_seq ?_
  refine gc_region ?_
  refine g_ev ((e_bd Try.underlying58 Try.zeroValue58 pl058 rfl).to (v' := .agg ⟨[.slice none 0 0, .int .i64 0, .int .i64 0, .int .i64 0]⟩) rfl) ?_
  refine g_eff (s_bx) ?_
  rintro _ _ ⟨b7, rfl, rfl⟩
  refine g_ev (e_as) ?_
  refine g_nil ?_
  refine gc_seq ?_
  refine gc_seq ?_
  refine gc_region ?_
  refine g_ev (e_fa Try.underlying25 rfl rfl Try.sizeOf22) ?_
  refine g_ev (e_ld Try.underlying22 rfl (by repeat ((conv => arg 2; whnf); first | with_reducible exact .here | ((with_reducible refine Del.hereC ?_); rfl) | ((with_reducible refine Del.hereS ?_ ?_ ?_) <;> rfl) | exact .here | apply Del.there)) rfl) ?_
  refine g_ev (e_len Try.underlying22 rfl) ?_
  refine g_ev (e_fa Try.underlying25 rfl rfl Try.sizeOf22) ?_
  refine g_ev (e_ld Try.underlying22 rfl (by repeat ((conv => arg 2; whnf); first | with_reducible exact .here | ((with_reducible refine Del.hereC ?_); rfl) | ((with_reducible refine Del.hereS ?_ ?_ ?_) <;> rfl) | exact .here | apply Del.there)) rfl) ?_
  refine g_ev (e_len Try.underlying22 rfl) ?_
  refine g_ev ((e_min rfl rfl).to (v' := .int .i64 ((newD hs ds).length : Int)) (congrArg _ (by rw [newD_len]; omega))) ?_
  refine g_ev (e_mv) ?_
  refine g_nil ?_
  refine gc_block ?_
  refine gc_loop (α := List LineS × Option Addr × Nat × Nat) (fun x E L => (x.1.map LineS.abs = (newD hs ds).take x.2.2.2) ∧ (x.2.2.2 ≤ (newD hs ds).length) ∧ (∀ l ∈ x.1, l.ok) ∧ (x.1.length = x.2.2.2) ∧ E 1 = .pointer (some ⟨b1, 0, none⟩) ∧ E 3 = .pointer (some ⟨b7, 0, none⟩) ∧ E 14 = .int .i64 ((newD hs ds).length : Int) ∧ E 15 = .int .i64 (x.2.2.2 : Int) ∧ ∀ w, Sat B w L → Sat B w (blk b1 25 [.slice ah hs.length ch, .slice ad ds.length cd, .int .u32 mx] :: blk b7 58 [.slice x.2.1 x.2.2.2 x.2.2.1, .int .i64 0, .int .i64 0, .int .i64 0] :: sown 64 22 (.slice x.2.1 x.2.2.2 x.2.2.1) x.2.2.2 (lcells x.1) :: ownLs x.1 :: A :: F)) (fun x => (newD hs ds).length - x.2.2.2) (([], none, 0, 0)) ?_ ?_
  · exact ⟨rfl, Nat.zero_le _, (by simp), rfl, (by (conv => lhs; whnf); try rfl), (by (conv => lhs; whnf); try rfl), (by (conv => lhs; whnf); try rfl), (by (conv => lhs; whnf); try rfl), (fun _ h => h.fin (L1 := [blk b1 25 [.slice ah hs.length ch, .slice ad ds.length cd, .int .u32 mx], blk b7 58 [.slice none 0 0, .int .i64 0, .int .i64 0, .int .i64 0], sown 64 22 (.slice none 0 0) 0 [], ownLs ([] : List LineS), A]) (F := F) (.cons (by repeat ((conv => arg 2; whnf); first | with_reducible exact .here | ((with_reducible refine Del.hereC ?_); rfl) | ((with_reducible refine Del.hereS ?_ ?_ ?_) <;> rfl) | exact .here | apply Del.there)) (.cons (by repeat ((conv => arg 2; whnf); first | with_reducible exact .here | ((with_reducible refine Del.hereC ?_); rfl) | ((with_reducible refine Del.hereS ?_ ?_ ?_) <;> rfl) | exact .here | apply Del.there)) (.fold nil_fold (.fold (M := []) ownLs_nil (by repeat ((conv => arg 1; whnf); (conv => arg 2; whnf); first | with_reducible exact .done | exact Fin.all _ | refine .cons (by repeat ((conv => arg 2; whnf); first | with_reducible exact .here | ((with_reducible refine Del.hereC ?_); rfl) | ((with_reducible refine Del.hereS ?_ ?_ ?_) <;> rfl) | exact .here | apply Del.there)) ?_ | refine .drop ?_)))))))⟩
  · rintro ⟨ls, la, lc, n⟩ E L ⟨hls, hle, hok, hn, s1, s3, s14, s15, hL⟩
    dsimp only at hls hle hok hn s1 s3 s14 s15 hL
    refine gc_imp hL ?_
    refine gc_slot 1 _ ?_ s1
    refine gc_slot 3 _ ?_ s3
    refine gc_slot 14 _ ?_ s14
    refine gc_slot 15 _ ?_ s15
    clear hL s1 s3 s14 s15
    have hll := newD_len hs ds
    refine gc_seq ?_
    refine gc_region ?_
    refine g_ev (e_lt rfl rfl) ?_
    refine g_nil ?_
    refine gc_seq ?_
    first | refine gc_dec rfl (fun c16 => ?_) (fun c16 => ?_) | refine gc_ndec rfl (fun c16 => ?_) (fun c16 => ?_) | refine gc_cond rfl (fun c16 => ?_) (fun c16 => ?_)
    · skip
      refine gc_skip ?_
      refine gc_seq ?_
      refine gc_block ?_
      refine gc_seq ?_
      refine gc_region ?_
      refine g_ev (e_mv) ?_
      refine g_ev (e_as) ?_
      refine g_nil ?_
      refine gc_seq ?_
      refine gc_region ?_
      refine g_eff (s_mm (kv := kv) (v0 := .bool true)) ?_
      rintro _ _ ⟨bm, rfl, rfl⟩
      refine g_ev ((e_bd Try.underlying64 Try.zeroValue64 pl064 rfl).to (v' := .agg ⟨[.int .i64 0, .int .u32 0, .int .u32 0, .bool false, .slice none 0 0, .int .u32 0, .int .i64 0, .int .i64 0, .bool false, .bool false, .int .i64 0, .int .u32 0, .int .u32 0, .bool false, .slice none 0 0, .int .u32 0, .int .i64 0, .int .i64 0, .bool false, .bool false, .int .u32 0, .map (some bm)]⟩) rfl) ?_
      refine g_eff (s_al Try.zeroValue64) ?_
      rintro _ _ ⟨b5, rfl, rfl⟩
      refine g_eff (s_stA Try.sizeOf64 rfl rfl (by repeat ((conv => arg 3; whnf); first | with_reducible exact .here | apply Turn.there))) ?_
      rintro _ _ ⟨rfl, rfl⟩
      refine g_nil ?_
      refine gc_seq ?_
      obtain ⟨hx, ehx⟩ : ∃ hx, hs[n]? = some hx := ⟨_, List.getElem?_eq_getElem (by omega)⟩
      obtain ⟨dx, edx⟩ : ∃ dx, ds[n]? = some dx := ⟨_, List.getElem?_eq_getElem (by omega)⟩
      refine gc_fact (φ := (∃ p, ah = some p) ∧ (∃ p, ad = some p)) (fun w h => rdsW_some (hrd _ w ((h.fin (L1 := [A]) (F := F) (by repeat ((conv => arg 1; whnf); (conv => arg 2; whnf); first | with_reducible exact .done | exact Fin.all _ | refine .cons (by repeat ((conv => arg 2; whnf); first | with_reducible exact .here | ((with_reducible refine Del.hereC ?_); rfl) | ((with_reducible refine Del.hereS ?_ ?_ ?_) <;> rfl) | exact .here | apply Del.there)) ?_ | refine .drop ?_))).left (L1 := [A]))) ehx edx) fun ⟨⟨ph, e1⟩, ⟨pd, e2⟩⟩ => ?_
      subst e1; subst e2
      refine gc_draw (D := [blk b5 64 [.int .i64 0, .int .u32 0, .int .u32 0, .bool false, .slice none 0 0, .int .u32 0, .int .i64 0, .int .i64 0, .bool false, .bool false, .int .i64 0, .int .u32 0, .int .u32 0, .bool false, .slice none 0 0, .int .u32 0, .int .i64 0, .int .i64 0, .bool false, .bool false, .int .u32 0, .map (some bm)]]) (fin := none) (plan := [(true, 0), (true, 1), (true, 2), (true, 3), (true, 4), (true, 5), (true, 6), (true, 7), (true, 8), (true, 9), (true, 10), (true, 11), (true, 12), (true, 13), (true, 14), (true, 16), (false, 15), (true, 17), (true, 18), (false, 19)]) rfl (by kernel_rfl) (by kernel_rfl) rfl (.cons (by repeat ((conv => arg 2; whnf); first | with_reducible exact .here | ((with_reducible refine Del.hereC ?_); rfl) | ((with_reducible refine Del.hereS ?_ ?_ ?_) <;> rfl) | exact .here | apply Del.there)) .nil) ?_
      refine gp_ev rfl (e_fa Try.underlying25 rfl rfl Try.sizeOf22) ?_
      refine gp_ev rfl (e_ld Try.underlying22 rfl (by repeat ((conv => arg 2; whnf); first | with_reducible exact .here | ((with_reducible refine Del.hereC ?_); rfl) | ((with_reducible refine Del.hereS ?_ ?_ ?_) <;> rfl) | exact .here | apply Del.there)) rfl) ?_
      refine gp_ev rfl (e_mv) ?_
      refine gp_ev rfl (e_iaA (q := n) Try.underlying22 Try.sizeOf66 rfl rfl rfl (by omega)) ?_
      refine gp_ev rfl (e_faA Try.underlying66 rfl rfl Try.sizeOf3) ?_
      refine gp_ev rfl (e_ldc (v := .int .i64 hx) Try.underlying3 rfl (fun B w h => (hrd B w ((h.fin (L1 := [A]) (F := F) (by repeat ((conv => arg 1; whnf); (conv => arg 2; whnf); first | with_reducible exact .done | exact Fin.all _ | refine .cons (by repeat ((conv => arg 2; whnf); first | with_reducible exact .here | ((with_reducible refine Del.hereC ?_); rfl) | ((with_reducible refine Del.hereS ?_ ?_ ?_) <;> rfl) | exact .here | apply Del.there)) ?_ | refine .drop ?_))).left (L1 := [A]))).1.2 ph rfl _ _ ehx)) ?_
      refine gp_ev rfl (e_fa Try.underlying25 rfl rfl Try.sizeOf22) ?_
      refine gp_ev rfl (e_ld Try.underlying22 rfl (by repeat ((conv => arg 2; whnf); first | with_reducible exact .here | ((with_reducible refine Del.hereC ?_); rfl) | ((with_reducible refine Del.hereS ?_ ?_ ?_) <;> rfl) | exact .here | apply Del.there)) rfl) ?_
      refine gp_ev rfl (e_mv) ?_
      refine gp_ev rfl (e_iaA (q := n) Try.underlying22 Try.sizeOf66 rfl rfl rfl (by omega)) ?_
      refine gp_ev rfl (e_faA Try.underlying66 rfl rfl Try.sizeOf3) ?_
      refine gp_ev rfl (e_ldc (v := .int .i64 dx) Try.underlying3 rfl (fun B w h => (hrd B w ((h.fin (L1 := [A]) (F := F) (by repeat ((conv => arg 1; whnf); (conv => arg 2; whnf); first | with_reducible exact .done | exact Fin.all _ | refine .cons (by repeat ((conv => arg 2; whnf); first | with_reducible exact .here | ((with_reducible refine Del.hereC ?_); rfl) | ((with_reducible refine Del.hereS ?_ ?_ ?_) <;> rfl) | exact .here | apply Del.there)) ?_ | refine .drop ?_))).left (L1 := [A]))).2.2 pd rfl _ _ edx)) ?_
      refine gp_ev rfl (e_fa Try.underlying64 rfl rfl Try.sizeOf62) ?_
      refine gp_ev rfl (e_iap (o := 0) (q := 0) Try.underlying62 Try.sizeOf61 rfl rfl rfl (by omega) rfl) ?_
      refine gp_ev rfl (e_fa Try.underlying61 rfl rfl Try.sizeOf3) ?_
      refine gp_ev rfl (e_fa Try.underlying64 rfl rfl Try.sizeOf62) ?_
      refine gp_eff rfl (s_st Try.sizeOf3 rfl (by repeat ((conv => arg 3; whnf); first | with_reducible exact .here | apply Turn.there))) ?_
      rintro _ _ ⟨rfl, rfl⟩
      refine gp_ev rfl (e_iap (o := 10) (q := 1) Try.underlying62 Try.sizeOf61 rfl rfl rfl (by omega) rfl) ?_
      refine gp_ev rfl (e_fa Try.underlying61 rfl rfl Try.sizeOf3) ?_
      refine gp_eff rfl (s_st Try.sizeOf3 rfl (by repeat ((conv => arg 3; whnf); first | with_reducible exact .here | apply Turn.there))) ?_
      rintro _ _ ⟨rfl, rfl⟩
      refine gp_nil ?_
      refine gc_draw (D := [sown 64 22 (.slice la n lc) n (lcells ls)]) (fin := some 10) (plan := [(true, 0), (true, 1), (true, 2), (true, 3), (true, 4), (true, 5), (false, 6), (false, 7), (true, 8), (true, 9), (false, 10)]) rfl (by kernel_rfl) (by kernel_rfl) rfl (.cons (by repeat ((conv => arg 2; whnf); first | with_reducible exact .here | ((with_reducible refine Del.hereC ?_); rfl) | ((with_reducible refine Del.hereS ?_ ?_ ?_) <;> rfl) | exact .here | apply Del.there)) .nil) ?_
      refine gp_ev rfl (e_mv) ?_
      refine gp_ev rfl (e_mv) ?_
      refine gp_ev rfl (e_nc rfl) ?_
      refine gp_ev rfl (e_fa Try.underlying58 rfl rfl Try.sizeOf56) ?_
      refine gp_ev rfl (e_ld Try.underlying56 rfl (by repeat ((conv => arg 2; whnf); first | with_reducible exact .here | ((with_reducible refine Del.hereC ?_); rfl) | ((with_reducible refine Del.hereS ?_ ?_ ?_) <;> rfl) | exact .here | apply Del.there)) rfl) ?_
      refine gp_ev rfl ((e_ldA Try.underlying64 rfl (by repeat ((conv => arg 2; whnf); first | with_reducible exact .here | ((with_reducible refine Del.hereC ?_); rfl) | ((with_reducible refine Del.hereS ?_ ?_ ?_) <;> rfl) | exact .here | apply Del.there)) Try.sizeOf64 (by simp)).to (v' := .agg ⟨[.int .i64 hx, .int .u32 0, .int .u32 0, .bool false, .slice none 0 0, .int .u32 0, .int .i64 0, .int .i64 0, .bool false, .bool false, .int .i64 dx, .int .u32 0, .int .u32 0, .bool false, .slice none 0 0, .int .u32 0, .int .i64 0, .int .i64 0, .bool false, .bool false, .int .u32 0, .map (some bm)]⟩) rfl) ?_
      refine gp_eff rfl (s_bs1 (us := [.int .i64 hx, .int .u32 0, .int .u32 0, .bool false, .slice none 0 0, .int .u32 0, .int .i64 0, .int .i64 0, .bool false, .bool false, .int .i64 dx, .int .u32 0, .int .u32 0, .bool false, .slice none 0 0, .int .u32 0, .int .i64 0, .int .i64 0, .bool false, .bool false, .int .u32 0, .map (some bm)]) Try.underlying56 Try.sizeOf64 Try.zeroValue64 rfl) ?_
      rintro _ _ ⟨b44, rfl, rfl⟩
      refine gp_eff rfl (s_ap (bytes := 176) (k := 22) Try.underlying56 info64 rfl rfl rfl rfl (by decide) rfl rfl (by repeat ((conv => arg 2; whnf); first | with_reducible exact .here | ((with_reducible refine Del.hereC ?_); rfl) | ((with_reducible refine Del.hereS ?_ ?_ ?_) <;> rfl) | exact .here | apply Del.there)) (fun B w h => h.rdsk0 (by repeat ((conv => arg 2; whnf); first | with_reducible exact .here | ((with_reducible refine Del.hereC ?_); rfl) | ((with_reducible refine Del.hereS ?_ ?_ ?_) <;> rfl) | exact .here | apply Del.there)) rfl) (by simp [Value.oneCell']) (by omega) (by unfold maxLen; omega)) ?_
      rintro _ _ ⟨la2, lc2, rfl, rfl, hn2⟩
      refine gp_ev rfl (e_nc rfl) ?_
      refine gp_ev rfl (e_fa Try.underlying58 rfl rfl Try.sizeOf56) ?_
      refine gp_fin rfl (s_st Try.sizeOf56 rfl (by repeat ((conv => arg 3; whnf); first | with_reducible exact .here | apply Turn.there))) ?_
      rintro _ _ ⟨rfl, rfl⟩
      refine gp_nil0 ?_
      refine gc_region ?_
      refine g_ev ((e_addw rfl rfl).to (v' := .int .i64 ((n + 1 : Nat) : Int)) (congrArg _ (wrapN (by omega) (by omega)))) ?_
      refine g_ev (e_mv) ?_
      refine g_nil ?_
      have hcs : lcells (ls ++ [(⟨EndS.new hx, EndS.new dx, 0, bm, [], 0⟩ : LineS)]) = lcells ls ++ [.int .i64 hx, .int .u32 0, .int .u32 0, .bool false, .slice none 0 0, .int .u32 0, .int .i64 0, .int .i64 0, .bool false, .bool false, .int .i64 dx, .int .u32 0, .int .u32 0, .bool false, .slice none 0 0, .int .u32 0, .int .i64 0, .int .i64 0, .bool false, .bool false, .int .u32 0, .map (some bm)] := lcells_snoc ls _
      refine Exists.intro ((ls ++ [(⟨EndS.new hx, EndS.new dx, 0, bm, [], 0⟩ : LineS)], la2, lc2, n + 1)) (And.intro ⟨(by show (ls ++ [(⟨EndS.new hx, EndS.new dx, 0, bm, [], 0⟩ : LineS)]).map LineS.abs = _; rw [List.map_append, hls, newD_take ehx edx]; rfl), (by show n + 1 ≤ _; omega), (fun l hl => (List.mem_append.1 hl).elim (hok l) (fun h => (by have h0 := List.mem_singleton.1 h; subst h0; exact ⟨List.nodup_nil, List.nodup_nil, fun p hp => (by cases hp)⟩))), (by show (ls ++ [_]).length = n + 1; rw [List.length_append, hn]; rfl), (by (conv => lhs; whnf); try rfl), (by (conv => lhs; whnf); try rfl), (by (conv => lhs; whnf); try rfl), (by (conv => lhs; whnf); try rfl), (fun w h => by show Sat B w (blk b1 25 [.slice (some ph) hs.length ch, .slice (some pd) ds.length cd, .int .u32 mx] :: blk b7 58 [.slice la2 (n + 1) lc2, .int .i64 0, .int .i64 0, .int .i64 0] :: sown 64 22 (.slice la2 (n + 1) lc2) (n + 1) (lcells (ls ++ [(⟨EndS.new hx, EndS.new dx, 0, bm, [], 0⟩ : LineS)])) :: ownLs (ls ++ [(⟨EndS.new hx, EndS.new dx, 0, bm, [], 0⟩ : LineS)]) :: A :: F); rw [hcs]; exact new_shut (h.fin (L1 := [blk b1 25 [.slice (some ph) hs.length ch, .slice (some pd) ds.length cd, .int .u32 mx], blk b7 58 [.slice la2 (n + 1) lc2, .int .i64 0, .int .i64 0, .int .i64 0], sown 64 22 (.slice la2 (n + 1) lc2) (n + 1) (lcells ls ++ ([.int .i64 hx, .int .u32 0, .int .u32 0, .bool false, .slice none 0 0, .int .u32 0, .int .i64 0, .int .i64 0, .bool false, .bool false, .int .i64 dx, .int .u32 0, .int .u32 0, .bool false, .slice none 0 0, .int .u32 0, .int .i64 0, .int .i64 0, .bool false, .bool false, .int .u32 0, .map (some bm)] : List Value)), ownLs ls, setB kv (.bool true) bm [] 0, A]) (F := F) (by repeat ((conv => arg 1; whnf); (conv => arg 2; whnf); first | with_reducible exact .done | exact Fin.all _ | refine .cons (by repeat ((conv => arg 2; whnf); first | with_reducible exact .here | ((with_reducible refine Del.hereC ?_); rfl) | ((with_reducible refine Del.hereS ?_ ?_ ?_) <;> rfl) | exact .here | apply Del.there)) ?_ | refine .drop ?_))))⟩ (by show _ - (n + 1) < _ - n; omega))
    · skip
      refine gc_exit ?_
      refine gc_seq ?_
      refine gc_region ?_
      refine g_ev (e_mv) ?_
      refine g_ev (e_as) ?_
      refine g_nil ?_
      refine gc_ret ?_
      have hfin : ls.map LineS.abs = newD hs ds := by rw [hls, List.take_of_length_le (by omega)]
      exact ret1 (v := .pointer (some ⟨b7, 0, none⟩)) (L1 := [jud b7 ⟨newD hs ds, 0, 0, 0⟩, A]) rfl (by (conv => lhs; whnf); try rfl) ⟨b7, rfl, rfl⟩ (fun _ h => h.fin (.fold (M := [blk b7 58 [.slice la n lc, .int .i64 (0 : Nat), .int .i64 0, .int .i64 0], sown 64 22 (.slice la n lc) n (lcells ls), ownLs ls]) (jud_fold hfin hok hn rfl rfl rfl) (by repeat ((conv => arg 1; whnf); (conv => arg 2; whnf); first | with_reducible exact .done | exact Fin.all _ | refine .cons (by repeat ((conv => arg 2; whnf); first | with_reducible exact .here | ((with_reducible refine Del.hereC ?_); rfl) | ((with_reducible refine Del.hereS ?_ ?_ ?_) <;> rfl) | exact .here | apply Del.there)) ?_ | refine .drop ?_))))

end Go.Proofs.Ythjimddhnlmlhaa
