/- The walk of the fixed facts; no conditions. -/
import Derived.Test.YthjimddhnlmlhaaPlain
import Derived.Test.YthjimddhnlmlhaaVc
namespace Go.Proofs.Ythjimddhnlmlhaa
open Go.Vc
theorem pl225 : plOK Try.prog 25 #[(0, 1), (1, 1), (2, 1)] := by intro fs h w; rw [Try.underlying25] at h; cases h; simp
theorem pl234 : plOK Try.prog 34 #[(0, 1), (1, 1)] := by intro fs h w; rw [Try.underlying34] at h; cases h; simp
theorem pl243 : plOK Try.prog 43 #[(0, 1), (1, 1), (2, 1), (3, 1), (4, 1), (5, 1), (6, 1), (7, 1)] := by intro fs h w; rw [Try.underlying43] at h; cases h; simp

theorem ok_of_map {fs gs : List FactV} (hm : gs.map (·.f) = fs.map (·.f)) (hok : ∀ x ∈ fs, x.f.ok) : ∀ x ∈ gs, x.f.ok := by
  intro x hx
  have : x.f ∈ fs.map (·.f) := by rw [← hm]; exact List.mem_map.2 ⟨x, hx, rfl⟩
  obtain ⟨y, hy, e⟩ := List.mem_map.1 this
  rw [← e]; exact hok y hy
theorem len_of_map {fs gs : List FactV} (hm : gs.map (·.f) = fs.map (·.f)) : gs.length = fs.length := by simpa using congrArg List.length hm
theorem check_c {A A2 : HProp} {nv : Value} {hs ds : List Int} (hnet : IsNet A nv hs ds) (hl : hs.length ≤ 1000) {sa : Option Addr} {sc : Nat} {gs : List FactV} {FS : List FactS} (hm : gs.map (·.f) = FS) (hfs : ∀ B w, Sat B w [A2] → RdFs w sa gs) (hok : ∀ f ∈ FS, f.ok) (hn : FS.length ≤ 1000000) :
    Tri Try.prog 15 #[nv, .slice sa gs.length sc] [A, A2] (isR (.agg ⟨[.int .i64 (checkA hs ds FS).r, .int .i64 (checkA hs ds FS).ra]⟩) [A, A2]) := by
  subst hm
  exact check_t hnet hl hfs (fun x hx => hok _ (List.mem_map.2 ⟨x, hx, rfl⟩)) (by simpa using hn)
theorem RdFs.take {w : World} {sa : Option Addr} {fs : List FactV} (h : RdFs w sa fs) (k : Nat) : RdFs w sa (fs.take k) := by
  refine ⟨fun e => by rw [h.1 e]; simp, fun ad had i x hx j u hj => ?_, fun x hx => h.2.2 x (List.mem_of_mem_take hx)⟩
  rw [List.getElem?_take] at hx
  split at hx
  · exact h.2.1 ad had i x hx j u hj
  · cases hx
theorem app_shut {B w : World} {la : Option Addr} {lc n : Nat} {fs gs : List FactV} {F : List HProp} (hn : n = fs.length + gs.length) (h : Sat B w (sown 43 8 (.slice la n lc) n (fcells fs ++ fcells gs) :: ownD fs :: ownD gs :: F)) : Sat B w (factsM la lc (fs ++ gs) :: F) := by
  have e : fcells fs ++ fcells gs = fcells (fs ++ gs) := by simp [fcells, List.flatMap_append]
  have h1 := (h.fin (L1 := [ownD fs, ownD gs, sown 43 8 (.slice la n lc) n (fcells fs ++ fcells gs)]) (F := F) (.cons (.there .here) (.cons (.there .here) (.cons .here .done))))
  have h2 : Sat B w (fs.map FactV.part ++ (ownD gs :: (sown 43 8 (.slice la n lc) n (fcells fs ++ fcells gs)) :: F)) := Sat.unpack h1
  have h3 : Sat B w (ownD gs :: (sown 43 8 (.slice la n lc) n (fcells fs ++ fcells gs) :: F ++ fs.map FactV.part)) := h2.perm (by
    exact List.perm_append_comm)
  have h4 := Sat.unpack h3
  have h5 : Sat B w ((fs ++ gs).map FactV.part ++ (sown 43 8 (.slice la n lc) n (fcells fs ++ fcells gs) :: F)) := h4.perm (by
    rw [List.map_append]
    refine (List.perm_append_comm).trans ?_
    rw [List.append_assoc]
    refine List.perm_append_comm.trans ?_
    rw [List.append_assoc])
  have h6 := Sat.pack h5
  refine Sat.pack (M := [sown 43 8 (.slice la (fs ++ gs).length lc) (fs ++ gs).length (fcells (fs ++ gs)), ownD (fs ++ gs)]) ?_
  rw [← e, List.length_append, ← hn]
  exact h6.perm (.swap _ _ _)
theorem rem_nat (c : Int) {n : Nat} (hn : 0 < n) (hb : n ≤ 1000000) : ∃ k : Nat, k < n ∧ IntKind.i64.wrap ((IntKind.u64.wrap c).tmod (IntKind.u64.wrap (n : Int))) = (k : Int) := by
  have h0 : 0 ≤ IntKind.u64.wrap c := by simp [IntKind.wrap, IntKind.bits, IntKind.signed]; omega
  have h1 : IntKind.u64.wrap (n : Int) = (n : Int) := by simp [IntKind.wrap, IntKind.bits, IntKind.signed]; omega
  obtain ⟨m, hm⟩ : ∃ m : Nat, IntKind.u64.wrap c = (m : Int) := ⟨(IntKind.u64.wrap c).toNat, by omega⟩
  refine ⟨m % n, Nat.mod_lt _ hn, ?_⟩
  rw [h1, hm, Int.tmod_eq_emod_of_nonneg (by omega)]
  have hlt : m % n < n := Nat.mod_lt _ hn
  exact wrapN (by rw [Int.natCast_emod]) (by omega)
section
variable {P : Program} {E : Env} {L : List HProp} {d : Option Tmp} {t T : TypeId} {ps : String} {af : Array Edge} {gd : Option (Nat × Bool)} {x : Operand}
/-- A beginning of a slice, nil or not. -/
theorem e_slO {m c e k hi : Nat} {a : Option Addr} {h : Operand} {q : IntKind} (hu : P.underlying T = some (.slice e)) (hs : ∀ w, (sizeOf e).run P w = .ok k w) (hx : ev E x = .slice a m c) (hn : a = none → m = 0 ∧ c = 0) (hh : ev E h = .int q (hi : Int)) (h2 : hi ≤ c) :
    Ev P E L ⟨d, .slice T x none (some h) none, t, ps, af, gd⟩ (.slice a hi c) := by
  cases a with
  | some a => exact e_slA hu hs hx hh h2
  | none =>
    obtain ⟨rfl, rfl⟩ := hn rfl
    obtain rfl : hi = 0 := by omega
    exact e_sln (low := none) (high := some h) hu hs hx rfl rfl trivial ⟨q, hh⟩
end
def awF : List FactS := [⟨3, 0, 2, 1, 0, false, 0, []⟩, ⟨1, 0, 1, 1, 1, false, 0, [5]⟩, ⟨2, 0, 2, 1, 1, false, 0, [5]⟩, ⟨8, 0, 2, 0, 0, true, 0, [5]⟩]
def aw (b : Nat) : List FactV := [⟨⟨3, 0, 2, 1, 0, false, 0, []⟩, none, 0⟩, ⟨⟨1, 0, 1, 1, 1, false, 0, [5]⟩, some ⟨b, 0, none⟩, 1⟩, ⟨⟨2, 0, 2, 1, 1, false, 0, [5]⟩, some ⟨b, 0, none⟩, 1⟩, ⟨⟨8, 0, 2, 0, 0, true, 0, [5]⟩, some ⟨b, 0, none⟩, 1⟩]
theorem aw1 : (checkA [10] [10] awF).r = 0 ∧ (checkA [10] [10] awF).ra = 0 := by decide +kernel
theorem aw2 : (checkA [10] [10] (awF.drop 2)).r = 2 ∧ (checkA [10] [10] (awF.drop 2)).ra = 0 := by decide +kernel
theorem aw_ok : ∀ f ∈ awF, f.ok := by
  intro f hf
  simp only [awF, List.mem_cons, List.not_mem_nil, or_false] at hf
  rcases hf with rfl | rfl | rfl | rfl <;> exact ⟨by decide, by decide⟩
theorem aw_rd0 {B w : World} {bl b : Nat} (s : Sat B w [allP [blk bl 43 (fcells (aw b)), blk b 5 (bv [5])]]) : ∀ x ∈ aw b, x.rds w := by
  have s2 := Sat.unpack (F := []) s
  have h5 : Rds w 1 (.slice (some ⟨b, 0, none⟩) 1 1) 1 (bv [5]) := s2.rdsb0 (.there .here) rfl
  intro x hx
  simp only [aw, List.mem_cons, List.not_mem_nil, or_false] at hx
  rcases hx with rfl | rfl | rfl | rfl
  · exact ⟨rfl, none, 0, rfl, fun _ => ⟨rfl, rfl⟩, fun _ h => by cases h⟩
  · exact h5
  · exact h5
  · exact h5
theorem aw_rd {bl b : Nat} (B w : World) (s : Sat B w [allP [blk bl 43 (fcells (aw b)), blk b 5 (bv [5])]]) : RdFs w (some ⟨bl, 0, none⟩) (aw b) :=
  fs_of_blk (c := 0) (Sat.unpack (F := []) s) .here (fun j u h => by rw [Nat.zero_add]; exact h) (aw_rd0 s)
theorem aw_rd2 {bl b : Nat} (B w : World) (s : Sat B w [allP [blk bl 43 (fcells (aw b)), blk b 5 (bv [5])]]) : RdFs w (some ⟨bl, 16, none⟩) ((aw b).drop 2) :=
  fs_of_blk (c := 0) (off := 16) (fs := (aw b).drop 2) (Sat.unpack (F := []) s) .here (fun j u h => by
    have e : fcells (aw b) = fcells ((aw b).take 2) ++ fcells ((aw b).drop 2) := rfl
    rw [e]
    exact (mid_get (fcells ((aw b).take 2)) (fcells ((aw b).drop 2)) j).trans h) (fun x hx => aw_rd0 s x (List.mem_of_mem_drop hx))

theorem awake18_t  : Tri Try.prog 7 #[] [] (isR (.bool true) []) := by
  refine tri_of Try.call7 Try.func7 rfl fun B F => ?_
  refine gc_seq ?_
  refine gc_region ?_
  refine g_ev (e_as) ?_
  refine g_nil ?_
  refine gc_seq ?_
  refine gc_region ?_
  refine g_eff (s_call (lone_t) .nil) ?_
  rintro _ _ ⟨_, ⟨N, rfl, ah, ch, ad, cd, mx, rfl, hrd⟩, rfl⟩
  refine g_eff (s_al Try.zeroValue25) ?_
  rintro _ _ ⟨b1, rfl, rfl⟩
  refine g_eff (s_stA Try.sizeOf25 rfl rfl (by repeat ((conv => arg 3; whnf); first | with_reducible exact .here | apply Turn.there))) ?_
  rintro _ _ ⟨rfl, rfl⟩
  refine g_nil ?_
  refine gc_seq ?_
  refine gc_region ?_
  refine g_eff (s_bs (cs := bv [5]) Try.underlying41 Try.sizeOf5 Try.zeroValue5 rfl) ?_
  rintro _ _ ⟨b5, rfl, rfl⟩
  refine g_ev (e_as) ?_
  refine g_nil ?_
  refine gc_seq ?_
  refine gc_region ?_
  refine g_ev ((e_bd Try.underlying43 Try.zeroValue43 pl243 rfl).to (v' := .agg ⟨[.int .i64 3, .int .i64 0, .int .i64 2, .int .u32 1, .int .u32 0, .bool false, .int .i64 0, .slice none 0 0]⟩) rfl) ?_
  refine g_ev (e_mv) ?_
  refine g_ev ((e_bd Try.underlying43 Try.zeroValue43 pl243 rfl).to (v' := .agg ⟨[.int .i64 1, .int .i64 0, .int .i64 1, .int .u32 1, .int .u32 1, .bool false, .int .i64 0, .slice (some ⟨b5, 0, none⟩) 1 1]⟩) rfl) ?_
  refine g_ev (e_mv) ?_
  refine g_ev ((e_bd Try.underlying43 Try.zeroValue43 pl243 rfl).to (v' := .agg ⟨[.int .i64 2, .int .i64 0, .int .i64 2, .int .u32 1, .int .u32 1, .bool false, .int .i64 0, .slice (some ⟨b5, 0, none⟩) 1 1]⟩) rfl) ?_
  refine g_ev (e_mv) ?_
  refine g_ev ((e_bd Try.underlying43 Try.zeroValue43 pl243 rfl).to (v' := .agg ⟨[.int .i64 8, .int .i64 0, .int .i64 2, .int .u32 0, .int .u32 0, .bool true, .int .i64 0, .slice (some ⟨b5, 0, none⟩) 1 1]⟩) rfl) ?_
  refine g_eff (s_bss (uss := (aw b5).map FactV.cells) Try.underlying26 Try.sizeOf43 Try.zeroValue43 rfl rfl (by simp [aw])) ?_
  rintro _ _ ⟨b13, rfl, rfl⟩
  refine g_ev (e_as) ?_
  refine g_nil ?_
  refine gc_seq ?_
  refine gc_fin (L1 := [blk b1 25 [.slice ah [10].length ch, .slice ad [10].length cd, .int .u32 mx], N, allP [blk b13 43 (fcells (aw b5)), blk b5 5 (bv [5])]]) (F := F) (.cons (by repeat ((conv => arg 2; whnf); first | with_reducible exact .here | ((with_reducible refine Del.hereC ?_); rfl) | ((with_reducible refine Del.hereS ?_ ?_ ?_) <;> rfl) | exact .here | apply Del.there)) (.cons (by repeat ((conv => arg 2; whnf); first | with_reducible exact .here | ((with_reducible refine Del.hereC ?_); rfl) | ((with_reducible refine Del.hereS ?_ ?_ ?_) <;> rfl) | exact .here | apply Del.there)) (.fold (M := [blk b13 43 (fcells (aw b5)), blk b5 5 (bv [5])]) (fun _ h => h) (by repeat ((conv => arg 1; whnf); (conv => arg 2; whnf); first | with_reducible exact .done | exact Fin.all _ | refine .cons (by repeat ((conv => arg 2; whnf); first | with_reducible exact .here | ((with_reducible refine Del.hereC ?_); rfl) | ((with_reducible refine Del.hereS ?_ ?_ ?_) <;> rfl) | exact .here | apply Del.there)) ?_ | refine .drop ?_))))) ?_
  refine gc_draw (D := [N, allP [blk b13 43 (fcells (aw b5)), blk b5 5 (bv [5])]]) (fin := none) (plan := [(true, 0), (true, 1), (true, 3), (false, 2), (true, 4), (true, 5), (true, 6), (true, 7), (true, 8), (true, 10), (false, 9), (true, 11), (true, 12), (true, 13)]) rfl (by kernel_rfl) (by kernel_rfl) rfl (.cons (by repeat ((conv => arg 2; whnf); first | with_reducible exact .here | ((with_reducible refine Del.hereC ?_); rfl) | ((with_reducible refine Del.hereS ?_ ?_ ?_) <;> rfl) | exact .here | apply Del.there)) (.cons (by repeat ((conv => arg 2; whnf); first | with_reducible exact .here | ((with_reducible refine Del.hereC ?_); rfl) | ((with_reducible refine Del.hereS ?_ ?_ ?_) <;> rfl) | exact .here | apply Del.there)) (.nil))) ?_
  refine gp_ev rfl (e_ldA Try.underlying25 rfl (by repeat ((conv => arg 2; whnf); first | with_reducible exact .here | ((with_reducible refine Del.hereC ?_); rfl) | ((with_reducible refine Del.hereS ?_ ?_ ?_) <;> rfl) | exact .here | apply Del.there)) Try.sizeOf25 (by simp)) ?_
  refine gp_ev rfl (e_mv) ?_
  refine gp_ev rfl ((e_bd Try.underlying34 Try.zeroValue34 pl234 rfl).to (v' := .agg ⟨[.int .i64 0, .int .i64 0]⟩) rfl) ?_
  refine gp_eff rfl (s_call (check_c (A := N) (A2 := allP [blk b13 43 (fcells (aw b5)), blk b5 5 (bv [5])]) (hs := [10]) (ds := [10]) (gs := aw b5) (FS := awF) ⟨ah, ch, ad, cd, mx, rfl, hrd⟩ (by decide) rfl aw_rd aw_ok (by decide)) (.cons (by repeat ((conv => arg 2; whnf); first | with_reducible exact .here | ((with_reducible refine Del.hereC ?_); rfl) | ((with_reducible refine Del.hereS ?_ ?_ ?_) <;> rfl) | exact .here | apply Del.there)) (.cons (by repeat ((conv => arg 2; whnf); first | with_reducible exact .here | ((with_reducible refine Del.hereC ?_); rfl) | ((with_reducible refine Del.hereS ?_ ?_ ?_) <;> rfl) | exact .here | apply Del.there)) (.nil)))) ?_
  rintro _ _ ⟨_, ⟨rfl, rfl⟩, rfl⟩
  refine gp_ev rfl ((e_eqV rfl rfl).to (v' := .bool true) (congrArg Value.bool (decide_eq_true aw1))) ?_
  refine gp_ev rfl (e_mv) ?_
  refine gp_ev rfl (e_ldA Try.underlying25 rfl (by repeat ((conv => arg 2; whnf); first | with_reducible exact .here | ((with_reducible refine Del.hereC ?_); rfl) | ((with_reducible refine Del.hereS ?_ ?_ ?_) <;> rfl) | exact .here | apply Del.there)) Try.sizeOf25 (by simp)) ?_
  refine gp_ev rfl (e_mv) ?_
  refine gp_ev rfl ((e_sl (low := some (.const (.int .i64 2))) (high := none) (lo := 2) (hi := 4) Try.underlying26 Try.sizeOf43 rfl ⟨_, rfl⟩ rfl (by decide) (by decide) (by decide)).to (v' := .slice (some ⟨b13, 16, none⟩) 2 2) rfl) ?_
  refine gp_ev rfl ((e_bd Try.underlying34 Try.zeroValue34 pl234 rfl).to (v' := .agg ⟨[.int .i64 2, .int .i64 0]⟩) rfl) ?_
  refine gp_eff rfl (s_call (check_c (A := N) (A2 := allP [blk b13 43 (fcells (aw b5)), blk b5 5 (bv [5])]) (hs := [10]) (ds := [10]) (gs := (aw b5).drop 2) (FS := awF.drop 2) ⟨ah, ch, ad, cd, mx, rfl, hrd⟩ (by decide) rfl aw_rd2 (fun f hf => aw_ok f (List.mem_of_mem_drop hf)) (by decide)) (.cons (by repeat ((conv => arg 2; whnf); first | with_reducible exact .here | ((with_reducible refine Del.hereC ?_); rfl) | ((with_reducible refine Del.hereS ?_ ?_ ?_) <;> rfl) | exact .here | apply Del.there)) (.cons (by repeat ((conv => arg 2; whnf); first | with_reducible exact .here | ((with_reducible refine Del.hereC ?_); rfl) | ((with_reducible refine Del.hereS ?_ ?_ ?_) <;> rfl) | exact .here | apply Del.there)) (.nil)))) ?_
  rintro _ _ ⟨_, ⟨rfl, rfl⟩, rfl⟩
  refine gp_ev rfl ((e_eqV rfl rfl).to (v' := .bool true) (congrArg Value.bool (decide_eq_true aw2))) ?_
  refine gp_ev rfl (e_pk rfl) ?_
  refine gp_ev rfl (e_as) ?_
  refine gp_nil ?_
  refine gc_ret ?_
  exact ret1 (v := .bool true) (L1 := []) rfl (by (conv => lhs; whnf); try rfl) ⟨rfl, rfl⟩ (fun _ h => h.fin (by repeat ((conv => arg 1; whnf); (conv => arg 2; whnf); first | with_reducible exact .done | exact Fin.all _ | refine .cons (by repeat ((conv => arg 2; whnf); first | with_reducible exact .here | ((with_reducible refine Del.hereC ?_); rfl) | ((with_reducible refine Del.hereS ?_ ?_ ?_) <;> rfl) | exact .here | apply Del.there)) ?_ | refine .drop ?_)))

end Go.Proofs.Ythjimddhnlmlhaa
