/- The walk of GhostNil; no conditions. -/
import Derived.Test.YthjimddhnlmlhaaRel
import Derived.Test.YthjimddhnlmlhaaVcMore
namespace Go.Proofs.Ythjimddhnlmlhaa
open Go.Vc
theorem pl925 : plOK Try.prog 25 #[(0, 1), (1, 1), (2, 1)] := by intro fs h w; rw [Try.underlying25] at h; cases h; simp
theorem pl934 : plOK Try.prog 34 #[(0, 1), (1, 1)] := by intro fs h w; rw [Try.underlying34] at h; cases h; simp
theorem pl943 : plOK Try.prog 43 #[(0, 1), (1, 1), (2, 1), (3, 1), (4, 1), (5, 1), (6, 1), (7, 1)] := by intro fs h w; rw [Try.underlying43] at h; cases h; simp

def xorb (y : UInt8) : UInt8 := UInt8.ofNat (BitVec.ofInt IntKind.u8.bits (y.toNat : Int) ^^^ BitVec.ofInt IntKind.u8.bits 85).toNat
theorem xorb_eq (y : UInt8) : IntKind.u8.wrap ((BitVec.ofInt IntKind.u8.bits (y.toNat : Int) ^^^ BitVec.ofInt IntKind.u8.bits 85).toNat : Int) = ((xorb y).toNat : Int) := by
  have h := byteW (i := ((BitVec.ofInt IntKind.u8.bits (y.toNat : Int) ^^^ BitVec.ofInt IntKind.u8.bits 85).toNat : Int)) (w := (BitVec.ofInt IntKind.u8.bits (y.toNat : Int) ^^^ BitVec.ofInt IntKind.u8.bits 85).toNat) (k := 0) (by simp)
  rw [h]
  unfold wb xorb
  simp
theorem bv_get {ds : List UInt8} {rest : List Value} {j : Nat} {y : UInt8} (h : ds[j]? = some y) : (bv ds ++ rest)[j]? = some (.int .u8 (y.toNat : Int)) := by
  have hlt : j < ds.length := (List.getElem?_eq_some_iff.1 h).1
  rw [List.getElem?_append_left (by rw [bv_len]; exact hlt)]
  simp [bv, h]
theorem bv_set (ds : List UInt8) (rest : List Value) (j : Nat) (y : UInt8) (h : j < ds.length) : (bv ds ++ rest).set j (.int .u8 (y.toNat : Int)) = bv (ds.set j y) ++ rest := by
  rw [List.set_append_left _ _ (by rw [bv_len]; exact h)]
  simp [bv, List.map_set]
theorem ownD_take {B w : World} {c1 c2 : List FactV} {x : FactV} {F : List HProp} (h : Sat B w (ownD (c1 ++ x :: c2) :: F)) : Sat B w (x.part :: allP (c1.map FactV.part ++ c2.map FactV.part) :: F) := by
  refine Sat.allP_take ?_
  have := h
  unfold ownD at this
  rw [List.map_append, List.map_cons] at this
  exact this
theorem ownD_give {B w : World} {c1 c2 : List FactV} {x : FactV} {F : List HProp} (h : Sat B w (x.part :: allP (c1.map FactV.part ++ c2.map FactV.part) :: F)) : Sat B w (ownD (c1 ++ x :: c2) :: F) := by
  have := Sat.allP_give h
  unfold ownD
  rw [List.map_append, List.map_cons]
  exact this
theorem fcells_same {c1 c2 : List FactV} {xf : FactS} {xa : Option Addr} {xc : Nat} {ds : List UInt8} (h : ds.length = xf.data.length) : fcells ((c1 ++ [⟨{ xf with data := ds }, xa, xc⟩]) ++ c2) = fcells (c1 ++ ⟨xf, xa, xc⟩ :: c2) := by
  simp [fcells, h]
theorem facts_at {B w : World} {L L' : List HProp} {la : Option Addr} {lc n i : Nat} {cs : List FactV} {x : FactV} {p : Addr} (s : Sat B w L) (hd : Del (sown 43 8 (.slice (some p) n lc) n (fcells cs)) L L') (hx : cs[i]? = some x) {j : Nat} {u : Value} (hj : x.cells[j]? = some u) : w.cell? ((p.add (i * 8)).add j) = some u := by
  rw [Addr.add_add]
  exact (s.rds hd).at_ (fcells_get hx hj)

set_option maxHeartbeats 4000000 in
theorem nil_t {A : HProp} {sa : Option Addr} {sc : Nat} {fs : List FactV} (hfs : ∀ B w, Sat B w [A] → RdFs w sa fs) (hsn : sa = none → fs.length = 0 ∧ sc = 0) (hok : ∀ x ∈ fs, x.f.ok) (hn : fs.length * 72 ≤ 140737488355328) : Tri Try.prog 5 #[.slice sa fs.length sc] [A] (isR (.bool true) [A]) := by
  refine tri_of Try.call5 Try.func5 rfl fun B F => ?_
  refine gc_seq ?_
  refine gc_region ?_
  refine g_ev (e_as) ?_
  refine g_nil ?_
  refine gc_seq ?_
  refine gc_seq ?_
  refine gc_region ?_
  refine g_eff (s_call awake18_t .nil) ?_
  rintro _ _ ⟨_, ⟨rfl, rfl⟩, rfl⟩
  refine g_ev (e_not rfl) ?_
  refine g_nil ?_
  refine gc_false ?_
  refine gc_skip ?_
  refine gc_seq ?_
  refine gc_seq ?_
  refine gc_region ?_
  refine g_ev (e_mv) ?_
  refine g_ev (e_len Try.underlying26 rfl) ?_
  refine g_ev (e_gt rfl rfl) ?_
  refine g_nil ?_
  first | refine gc_dec rfl (fun c14 => ?_) (fun c14 => ?_) | refine gc_ndec rfl (fun c14 => ?_) (fun c14 => ?_) | refine gc_cond rfl (fun c14 => ?_) (fun c14 => ?_)
  · skip
    refine gc_seq ?_
    refine gc_region ?_
    refine g_ev (e_as) ?_
    refine g_nil ?_
    refine gc_ret ?_
    exact ret1 (v := .bool true) (L1 := [A]) rfl (by (conv => lhs; whnf); try rfl) ⟨rfl, rfl⟩ (fun _ h => h.fin (by repeat ((conv => arg 1; whnf); (conv => arg 2; whnf); first | with_reducible exact .done | exact Fin.all _ | refine .cons (by repeat ((conv => arg 2; whnf); first | with_reducible exact .here | ((with_reducible refine Del.hereC ?_); rfl) | ((with_reducible refine Del.hereS ?_ ?_ ?_) <;> rfl) | exact .here | apply Del.there)) ?_ | refine .drop ?_)))
  · skip
    refine gc_skip ?_
    refine gc_seq ?_
    refine gc_region ?_
    refine g_ev (e_as) ?_
    refine g_nil ?_
    refine gc_seq ?_
    refine gc_seq ?_
    refine gc_cut (fun E L => E 0 = .slice sa fs.length sc ∧ E 32 = .bool false ∧ ∀ w, Sat B w L → Sat B w (A :: F)) ?_ ?_
    · skip
      refine gc_region ?_
      refine g_ev (e_mv) ?_
      refine g_eff (s_call verdict_nil .nil) ?_
      rintro _ _ ⟨_, ⟨rfl, rfl⟩, rfl⟩
      refine g_ev ((e_bd Try.underlying34 Try.zeroValue34 pl934 rfl).to (v' := .agg ⟨[.int .i64 0, .int .i64 0]⟩) rfl) ?_
      refine g_ev ((e_neV rfl rfl).to (v' := .bool false) (congrArg Value.bool (by rw [decide_eq_true ⟨rfl, rfl⟩]; rfl))) ?_
      refine g_ev (e_mv) ?_
      refine g_ev (e_mv) ?_
      refine g_ev (e_len Try.underlying26 rfl) ?_
      refine g_ev (e_gt rfl rfl) ?_
      refine g_ev (e_mv) ?_
      first | refine g_dec 23 rfl (fun c23 => ?_) (fun c23 => ?_) | refine g_ndec 23 rfl (fun c23 => ?_) (fun c23 => ?_) | refine g_bool 23 rfl (fun c23 => ?_) (fun c23 => ?_)
      · skip
        refine g_ev (e_mv) ?_
        refine g_ev (e_mv) ?_
        obtain ⟨y, hy⟩ : ∃ y, fs[0]? = some y := ⟨_, List.getElem?_eq_getElem (by omega)⟩
        refine g_fact (φ := ∃ p, sa = some p) (fun w h => (by have h0 := (hfs _ w ((h.fin (L1 := [A]) (F := F) (by repeat ((conv => arg 1; whnf); (conv => arg 2; whnf); first | with_reducible exact .done | exact Fin.all _ | refine .cons (by repeat ((conv => arg 2; whnf); first | with_reducible exact .here | ((with_reducible refine Del.hereC ?_); rfl) | ((with_reducible refine Del.hereS ?_ ?_ ?_) <;> rfl) | exact .here | apply Del.there)) ?_ | refine .drop ?_))).left (L1 := [A]))).1; cases sa with | none => rw [h0 rfl] at hy; cases hy | some p => exact ⟨p, rfl⟩)) fun ⟨p, e1⟩ => ?_
        subst e1
        refine g_ev (e_iaA (q := 0) Try.underlying26 Try.sizeOf43 rfl rfl rfl (by omega)) ?_
        refine g_ev (e_ldAc (xs := y.cells) Try.underlying43 rfl Try.sizeOf43 rfl (fun B w h => (hfs B w ((h.fin (L1 := [A]) (F := F) (by repeat ((conv => arg 1; whnf); (conv => arg 2; whnf); first | with_reducible exact .done | exact Fin.all _ | refine .cons (by repeat ((conv => arg 2; whnf); first | with_reducible exact .here | ((with_reducible refine Del.hereC ?_); rfl) | ((with_reducible refine Del.hereS ?_ ?_ ?_) <;> rfl) | exact .here | apply Del.there)) ?_ | refine .drop ?_))).left (L1 := [A]))).2.1 p rfl _ _ hy)) ?_
        refine g_eff (s_call (see_nil y.cells) .nil) ?_
        rintro _ _ ⟨_, ⟨rfl, rfl⟩, rfl⟩
        refine g_ev ((e_bd Try.underlying34 Try.zeroValue34 pl934 rfl).to (v' := .agg ⟨[.int .i64 0, .int .i64 0]⟩) rfl) ?_
        refine g_ev ((e_neV rfl rfl).to (v' := .bool false) (congrArg Value.bool (by rw [decide_eq_true ⟨rfl, rfl⟩]; rfl))) ?_
        refine g_ev (e_pk rfl) ?_
        refine g_ev (e_pk rfl) ?_
        refine g_nil ?_
        exact ⟨(by (conv => lhs; whnf); try first | rfl | (refine congrArg Value.bool ?_; simp_all) | simp_all), (by (conv => lhs; whnf); try first | rfl | (refine congrArg Value.bool ?_; simp_all) | simp_all), (fun _ h => h.fin (L1 := [A]) (F := F) (by repeat ((conv => arg 1; whnf); (conv => arg 2; whnf); first | with_reducible exact .done | exact Fin.all _ | refine .cons (by repeat ((conv => arg 2; whnf); first | with_reducible exact .here | ((with_reducible refine Del.hereC ?_); rfl) | ((with_reducible refine Del.hereS ?_ ?_ ?_) <;> rfl) | exact .here | apply Del.there)) ?_ | refine .drop ?_)))⟩
      · skip
        refine g_not ?_
        refine g_not ?_
        refine g_not ?_
        refine g_not ?_
        refine g_not ?_
        refine g_not ?_
        refine g_not ?_
        refine g_ev (e_pk rfl) ?_
        refine g_ev (e_pk rfl) ?_
        refine g_nil ?_
        exact ⟨(by (conv => lhs; whnf); try first | rfl | (refine congrArg Value.bool ?_; simp_all) | simp_all), (by (conv => lhs; whnf); try first | rfl | (refine congrArg Value.bool ?_; simp_all) | simp_all), (fun _ h => h.fin (L1 := [A]) (F := F) (by repeat ((conv => arg 1; whnf); (conv => arg 2; whnf); first | with_reducible exact .done | exact Fin.all _ | refine .cons (by repeat ((conv => arg 2; whnf); first | with_reducible exact .here | ((with_reducible refine Del.hereC ?_); rfl) | ((with_reducible refine Del.hereS ?_ ?_ ?_) <;> rfl) | exact .here | apply Del.there)) ?_ | refine .drop ?_)))⟩
    · rintro E L ⟨s0, s32, hL⟩
      refine gc_imp hL ?_
      refine gc_slot 0 _ ?_ s0
      refine gc_slot 32 _ ?_ s32
      clear hL s0 s32
      refine gc_false ?_
      refine gc_skip ?_
      refine gc_seq ?_
      refine gc_region ?_
      refine g_eff (s_call (lone_t) .nil) ?_
      rintro _ _ ⟨_, ⟨N, rfl, ah, ch, ad, cd, mx, rfl, hrd⟩, rfl⟩
      refine g_eff (s_al Try.zeroValue25) ?_
      rintro _ _ ⟨b4, rfl, rfl⟩
      refine g_eff (s_stA Try.sizeOf25 rfl rfl (by repeat ((conv => arg 3; whnf); first | with_reducible exact .here | apply Turn.there))) ?_
      rintro _ _ ⟨rfl, rfl⟩
      refine g_nil ?_
      refine gc_seq ?_
      refine gc_region ?_
      refine g_ev (e_mv) ?_
      refine g_eff (s_call (copied_t (fs := fs) hfs (fun h => (hsn h).2) hok (by first | omega | (simp only [List.length_take]; omega))) (.cons (by repeat ((conv => arg 2; whnf); first | with_reducible exact .here | ((with_reducible refine Del.hereC ?_); rfl) | ((with_reducible refine Del.hereS ?_ ?_ ?_) <;> rfl) | exact .here | apply Del.there)) (.nil))) ?_
      rintro _ _ ⟨_, ⟨la1, lc1, fs1, rfl, rfl, hm1⟩, rfl⟩
      have hl1 := len_of_map hm1
      rw [hl1]
      refine g_ev (e_as) ?_
      refine g_nil ?_
      refine gc_seq ?_
      refine gc_region ?_
      refine g_ev (e_ldA Try.underlying25 rfl (by repeat ((conv => arg 2; whnf); first | with_reducible exact .here | ((with_reducible refine Del.hereC ?_); rfl) | ((with_reducible refine Del.hereS ?_ ?_ ?_) <;> rfl) | exact .here | apply Del.there)) Try.sizeOf25 (by simp)) ?_
      refine g_eff (s_call (new_t hrd (by decide)) (.cons (by repeat ((conv => arg 2; whnf); first | with_reducible exact .here | ((with_reducible refine Del.hereC ?_); rfl) | ((with_reducible refine Del.hereS ?_ ?_ ?_) <;> rfl) | exact .here | apply Del.there)) (.nil))) ?_
      rintro _ _ ⟨_, ⟨bj, rfl, rfl⟩, rfl⟩
      refine g_ev (e_as) ?_
      refine g_nil ?_
      refine gc_seq ?_
      refine gc_region ?_
      refine g_ev (e_ldA Try.underlying25 rfl (by repeat ((conv => arg 2; whnf); first | with_reducible exact .here | ((with_reducible refine Del.hereC ?_); rfl) | ((with_reducible refine Del.hereS ?_ ?_ ?_) <;> rfl) | exact .here | apply Del.there)) Try.sizeOf25 (by simp)) ?_
      refine g_eff (s_call (rnew_t hrd (by decide)) (.cons (by repeat ((conv => arg 2; whnf); first | with_reducible exact .here | ((with_reducible refine Del.hereC ?_); rfl) | ((with_reducible refine Del.hereS ?_ ?_ ?_) <;> rfl) | exact .here | apply Del.there)) (.nil))) ?_
      rintro _ _ ⟨_, ⟨rj, rfl, rfl⟩, rfl⟩
      refine g_ev (e_as) ?_
      refine g_nil ?_
      refine gc_seq ?_
      refine gc_seq ?_
      refine gc_region ?_
      refine g_ev (e_as) ?_
      refine g_nil ?_
      refine gc_block ?_
      refine gc_loop (α := Nat × List FactV × List FactV) (fun z E L => (z.1 ≤ fs.length) ∧ (z.2.1.length = z.1) ∧ (z.2.2.map (fun x : FactV => x.f) = (fs.drop z.1).map fun x : FactV => x.f) ∧ E 0 = .slice sa fs.length sc ∧ E 5 = .slice la1 fs.length lc1 ∧ E 6 = .pointer (some ⟨bj, 0, none⟩) ∧ E 7 = .pointer (some ⟨rj, 0, none⟩) ∧ E 8 = .int .i64 (z.1 : Int) ∧ ∀ w, Sat B w L → Sat B w (jud bj ((JudD.mk (newD [10] [10]) 0 0 0).sees ((fs.take z.1).map fun x : FactV => x.f)) :: rjud rj (rnewD [10] [10]).length ((RD.mk (rnewD [10] [10]) [] 0 0 0).sees ((fs.take z.1).map fun x : FactV => x.f)) :: sown 43 8 (.slice la1 fs.length lc1) fs.length (fcells (z.2.1 ++ z.2.2)) :: ownD (z.2.1 ++ z.2.2) :: A :: F)) (fun z => fs.length - z.1) ((0, [], fs1)) ?_ ?_
      · exact ⟨Nat.zero_le _, rfl, hm1, (by (conv => lhs; whnf); try rfl), (by (conv => lhs; whnf); try rfl), (by (conv => lhs; whnf); try rfl), (by (conv => lhs; whnf); try rfl), (by (conv => lhs; whnf); try rfl), (fun w h => by
          have h1 := Sat.unpack (h.fin (L1 := [factsM la1 lc1 fs1, jud bj ⟨newD [10] [10], 0, 0, 0⟩, rjud rj (rnewD [10] [10]).length ⟨rnewD [10] [10], [], 0, 0, 0⟩, A]) (F := F) (by repeat ((conv => arg 1; whnf); (conv => arg 2; whnf); first | with_reducible exact .done | exact Fin.all _ | refine .cons (by repeat ((conv => arg 2; whnf); first | with_reducible exact .here | ((with_reducible refine Del.hereC ?_); rfl) | ((with_reducible refine Del.hereS ?_ ?_ ?_) <;> rfl) | exact .here | apply Del.there)) ?_ | refine .drop ?_)))
          rw [hl1] at h1
          exact h1.fin (L1 := [jud bj ⟨newD [10] [10], 0, 0, 0⟩, rjud rj (rnewD [10] [10]).length ⟨rnewD [10] [10], [], 0, 0, 0⟩, sown 43 8 (.slice la1 fs.length lc1) fs.length (fcells fs1), ownD fs1, A]) (F := F) (by repeat ((conv => arg 1; whnf); (conv => arg 2; whnf); first | with_reducible exact .done | exact Fin.all _ | refine .cons (by repeat ((conv => arg 2; whnf); first | with_reducible exact .here | ((with_reducible refine Del.hereC ?_); rfl) | ((with_reducible refine Del.hereS ?_ ?_ ?_) <;> rfl) | exact .here | apply Del.there)) ?_ | refine .drop ?_)))⟩
      · rintro ⟨i, c1, c2⟩ E L ⟨hi, hc1, hc2, s0, s5, s6, s7, s8, hL⟩
        dsimp only at hi hc1 hc2 s0 s5 s6 s7 s8 hL
        refine gc_imp hL ?_
        refine gc_slot 0 _ ?_ s0
        refine gc_slot 5 _ ?_ s5
        refine gc_slot 6 _ ?_ s6
        refine gc_slot 7 _ ?_ s7
        refine gc_slot 8 _ ?_ s8
        clear hL s0 s5 s6 s7 s8
        refine gc_seq ?_
        refine gc_seq ?_
        refine gc_region ?_
        refine g_ev (e_mv) ?_
        refine g_ev (e_mv) ?_
        refine g_ev (e_len Try.underlying26 rfl) ?_
        refine g_ev (e_lt rfl rfl) ?_
        refine g_nil ?_
        first | refine gc_dec rfl (fun c43 => ?_) (fun c43 => ?_) | refine gc_ndec rfl (fun c43 => ?_) (fun c43 => ?_) | refine gc_cond rfl (fun c43 => ?_) (fun c43 => ?_)
        · skip
          refine gc_skip ?_
          refine gc_seq ?_
          refine gc_block ?_
          refine gc_seq ?_
          refine gc_seq ?_
          obtain ⟨y, hy⟩ : ∃ y, fs[i]? = some y := ⟨_, List.getElem?_eq_getElem (by omega)⟩
          have hyo := hok y (List.mem_of_getElem? hy)
          have hdr : (fs.drop i) = y :: fs.drop (i + 1) := by rw [List.drop_eq_getElem_cons (by omega)]; congr 1; rw [List.getElem?_eq_getElem (by omega)] at hy; exact Option.some.inj hy
          rw [hdr] at hc2
          obtain ⟨⟨xf, xa, xc⟩, c2, rfl, hxf, hc2⟩ : ∃ (x : FactV) (c : List FactV), c2 = x :: c ∧ x.f = y.f ∧ c.map (fun x : FactV => x.f) = (fs.drop (i + 1)).map fun x : FactV => x.f := by
            cases c2 with
            | nil => cases hc2
            | cons x c => injection hc2 with h1 h2; exact ⟨x, c, rfl, h1, h2⟩
          replace hxf : xf = y.f := hxf
          have hxg : (c1 ++ (⟨xf, xa, xc⟩ : FactV) :: c2)[i]? = some (⟨xf, xa, xc⟩ : FactV) := by rw [← hc1, List.getElem?_append_right (Nat.le_refl _), Nat.sub_self]; rfl
          refine gc_imp (L' := jud bj ((JudD.mk (newD [10] [10]) 0 0 0).sees ((fs.take i).map fun x : FactV => x.f)) :: rjud rj (rnewD [10] [10]).length ((RD.mk (rnewD [10] [10]) [] 0 0 0).sees ((fs.take i).map fun x : FactV => x.f)) :: sown 43 8 (.slice la1 fs.length lc1) fs.length (fcells (c1 ++ (⟨xf, xa, xc⟩ : FactV) :: c2)) :: sown 5 1 (.slice xa xf.data.length xc) xf.data.length (bv xf.data) :: allP (c1.map FactV.part ++ c2.map FactV.part) :: A :: F) (fun w h => ?_) ?_
          · have h1 := ownD_take (h.fin (L1 := [ownD (c1 ++ (⟨xf, xa, xc⟩ : FactV) :: c2), jud bj ((JudD.mk (newD [10] [10]) 0 0 0).sees ((fs.take i).map fun x : FactV => x.f)), rjud rj (rnewD [10] [10]).length ((RD.mk (rnewD [10] [10]) [] 0 0 0).sees ((fs.take i).map fun x : FactV => x.f)), sown 43 8 (.slice la1 fs.length lc1) fs.length (fcells (c1 ++ (⟨xf, xa, xc⟩ : FactV) :: c2)), A]) (F := F) (by repeat ((conv => arg 1; whnf); (conv => arg 2; whnf); first | with_reducible exact .done | exact Fin.all _ | refine .cons (by repeat ((conv => arg 2; whnf); first | with_reducible exact .here | ((with_reducible refine Del.hereC ?_); rfl) | ((with_reducible refine Del.hereS ?_ ?_ ?_) <;> rfl) | exact .here | apply Del.there)) ?_ | refine .drop ?_)))
            exact h1.fin (L1 := [jud bj ((JudD.mk (newD [10] [10]) 0 0 0).sees ((fs.take i).map fun x : FactV => x.f)), rjud rj (rnewD [10] [10]).length ((RD.mk (rnewD [10] [10]) [] 0 0 0).sees ((fs.take i).map fun x : FactV => x.f)), sown 43 8 (.slice la1 fs.length lc1) fs.length (fcells (c1 ++ (⟨xf, xa, xc⟩ : FactV) :: c2)), sown 5 1 (.slice xa xf.data.length xc) xf.data.length (bv xf.data), allP (c1.map FactV.part ++ c2.map FactV.part), A]) (F := F) (by repeat ((conv => arg 1; whnf); (conv => arg 2; whnf); first | with_reducible exact .done | exact Fin.all _ | refine .cons (by repeat ((conv => arg 2; whnf); first | with_reducible exact .here | ((with_reducible refine Del.hereC ?_); rfl) | ((with_reducible refine Del.hereS ?_ ?_ ?_) <;> rfl) | exact .here | apply Del.there)) ?_ | refine .drop ?_))
          refine gc_fact (φ := ∃ p, la1 = some p) (fun w h => (h.rds (e := 43) (k := 8) (by repeat ((conv => arg 2; whnf); first | with_reducible exact .here | ((with_reducible refine Del.hereC ?_); rfl) | ((with_reducible refine Del.hereS ?_ ?_ ?_) <;> rfl) | exact .here | apply Del.there))).ex (by omega)) fun ⟨p, e1⟩ => ?_
          subst e1
          refine gc_fact (φ := ∃ p, sa = some p) (fun w h => (by have h0 := (hfs _ w ((h.fin (L1 := [A]) (F := F) (by repeat ((conv => arg 1; whnf); (conv => arg 2; whnf); first | with_reducible exact .done | exact Fin.all _ | refine .cons (by repeat ((conv => arg 2; whnf); first | with_reducible exact .here | ((with_reducible refine Del.hereC ?_); rfl) | ((with_reducible refine Del.hereS ?_ ?_ ?_) <;> rfl) | exact .here | apply Del.there)) ?_ | refine .drop ?_))).left (L1 := [A]))).1; cases sa with | none => rw [h0 rfl] at hy; cases hy | some p => exact ⟨p, rfl⟩)) fun ⟨q, e2⟩ => ?_
          subst e2
          have hrel := sees_rel (start_rel (hs := [10]) (ds := [10]) (by intro w hw; simp at hw; omega) (by intro w hw; simp at hw; omega)) ((fs.take i).map fun x : FactV => x.f) (fun f hf => by obtain ⟨x, hx, rfl⟩ := List.mem_map.1 hf; exact (hok x (List.mem_of_mem_take hx)).2) (by simp only [List.length_map, List.length_take]; omega)
          have hratR : ((RD.mk (rnewD [10] [10]) [] 0 0 0).sees ((fs.take i).map fun x : FactV => x.f)).at_ = i := by rw [rsees_at, List.length_map, List.length_take]; show 0 + _ = _; omega
          have hratD : ((JudD.mk (newD [10] [10]) 0 0 0).sees ((fs.take i).map fun x : FactV => x.f)).at_ = i := by rw [sees_at, List.length_map, List.length_take]; show 0 + _ = _; omega
          have hrsl : ((RD.mk (rnewD [10] [10]) [] 0 0 0).sees ((fs.take i).map fun x : FactV => x.f)).sent.length ≤ 1000000 := by have h0 := rsees_sent ⟨rnewD [10] [10], [], 0, 0, 0⟩ ((fs.take i).map fun x : FactV => x.f); rw [List.length_map, List.length_take] at h0; have h1 : ([] : List FactS).length = 0 := rfl; simp only [h1] at h0; omega
          have hrel2 := see_rel hrel (f := xf) (by rw [hxf]; exact hyo.2) (by rw [hratR]; omega)
          have hxo : xf.ok := by rw [hxf]; exact hyo
          have hxl : xf.data.length ≤ 140737488355328 := hxo.1
          · skip
            refine gc_cut (fun E L => E 0 = .slice (some q) fs.length sc ∧ E 5 = .slice (some p) fs.length lc1 ∧ E 6 = .pointer (some ⟨bj, 0, none⟩) ∧ E 7 = .pointer (some ⟨rj, 0, none⟩) ∧ E 8 = .int .i64 (i : Int) ∧ E 58 = .bool false ∧ ∀ w, Sat B w L → Sat B w (jud bj (((JudD.mk (newD [10] [10]) 0 0 0).sees ((fs.take i).map fun x : FactV => x.f)).see xf) :: rjud rj (rnewD [10] [10]).length (((RD.mk (rnewD [10] [10]) [] 0 0 0).sees ((fs.take i).map fun x : FactV => x.f)).see xf) :: sown 43 8 (.slice (some p) fs.length lc1) fs.length (fcells (c1 ++ (⟨xf, xa, xc⟩ : FactV) :: c2)) :: sown 5 1 (.slice xa xf.data.length xc) xf.data.length (bv xf.data) :: allP (c1.map FactV.part ++ c2.map FactV.part) :: A :: F)) ?_ ?_
            · skip
              refine gt_draw (D := [jud bj ((JudD.mk (newD [10] [10]) 0 0 0).sees ((fs.take i).map fun x : FactV => x.f)), sown 5 1 (.slice xa xf.data.length xc) xf.data.length (bv xf.data), rjud rj (rnewD [10] [10]).length ((RD.mk (rnewD [10] [10]) [] 0 0 0).sees ((fs.take i).map fun x : FactV => x.f)), A]) (fin := none) (plan := (.q 0 (.q 1 (.q 2 (.q 3 (.q 4 (.q 6 (.q 7 (.q 8 (.q 9 (.b 5 (.b 10 (.b 11 (.q 12 .e) .e) .e) (.b 10 (.b 5 (.b 11 (.q 12 .e) .e) .e) .e)))))))))))) rfl (by kernel_rfl) (by kernel_rfl) rfl (.cons (by repeat ((conv => arg 2; whnf); first | with_reducible exact .here | ((with_reducible refine Del.hereC ?_); rfl) | ((with_reducible refine Del.hereS ?_ ?_ ?_) <;> rfl) | exact .here | apply Del.there)) (.cons (by repeat ((conv => arg 2; whnf); first | with_reducible exact .here | ((with_reducible refine Del.hereC ?_); rfl) | ((with_reducible refine Del.hereS ?_ ?_ ?_) <;> rfl) | exact .here | apply Del.there)) (.cons (by repeat ((conv => arg 2; whnf); first | with_reducible exact .here | ((with_reducible refine Del.hereC ?_); rfl) | ((with_reducible refine Del.hereS ?_ ?_ ?_) <;> rfl) | exact .here | apply Del.there)) (.cons (by repeat ((conv => arg 2; whnf); first | with_reducible exact .here | ((with_reducible refine Del.hereC ?_); rfl) | ((with_reducible refine Del.hereS ?_ ?_ ?_) <;> rfl) | exact .here | apply Del.there)) (.nil))))) ?_
              refine gt_ev rfl (e_mv) ?_
              refine gt_ev rfl (e_mv) ?_
              refine gt_ev rfl (e_mv) ?_
              refine gt_ev rfl (e_iaA (q := i) Try.underlying26 Try.sizeOf43 rfl rfl rfl (by omega)) ?_
              refine gt_ev rfl (e_ldAc (xs := (⟨xf, xa, xc⟩ : FactV).cells) Try.underlying43 rfl Try.sizeOf43 rfl (fun B w h j u hj => facts_at (la := none) h (by repeat ((conv => arg 2; whnf); first | with_reducible exact .here | ((with_reducible refine Del.hereC ?_); rfl) | ((with_reducible refine Del.hereS ?_ ?_ ?_) <;> rfl) | exact .here | apply Del.there)) hxg hj)) ?_
              refine gt_ev rfl (e_mv) ?_
              refine gt_ev rfl (e_mv) ?_
              refine gt_ev rfl (e_mv) ?_
              refine gt_ev rfl (e_iaA (q := i) Try.underlying26 Try.sizeOf43 rfl rfl rfl (by omega)) ?_
              refine gt_b2 ?_ ?_
              · skip
                refine alt_eff rfl (s_call (see_t ((JudD.mk (newD [10] [10]) 0 0 0).sees ((fs.take i).map fun x : FactV => x.f)) xf (A := sown 5 1 (.slice xa xf.data.length xc) xf.data.length (bv xf.data)) (fun B w h => h.rds .here) hxo (by rw [hratD]; omega)) (.cons (by repeat ((conv => arg 2; whnf); first | with_reducible exact .here | ((with_reducible refine Del.hereC ?_); rfl) | ((with_reducible refine Del.hereS ?_ ?_ ?_) <;> rfl) | exact .here | apply Del.there)) (.cons (by repeat ((conv => arg 2; whnf); first | with_reducible exact .here | ((with_reducible refine Del.hereC ?_); rfl) | ((with_reducible refine Del.hereS ?_ ?_ ?_) <;> rfl) | exact .here | apply Del.there)) (.nil)))) ?_
                rintro _ _ ⟨_, ⟨rfl, rfl⟩, rfl⟩
                refine gt_evf rfl ((e_ldAc (xs := y.cells) Try.underlying43 rfl Try.sizeOf43 rfl (fun B w h => (hfs B w ((h.fin (L1 := [A]) (F := F) (by repeat ((conv => arg 1; whnf); (conv => arg 2; whnf); first | with_reducible exact .done | exact Fin.all _ | refine .cons (by repeat ((conv => arg 2; whnf); first | with_reducible exact .here | ((with_reducible refine Del.hereC ?_); rfl) | ((with_reducible refine Del.hereS ?_ ?_ ?_) <;> rfl) | exact .here | apply Del.there)) ?_ | refine .drop ?_))).left (L1 := [A]))).2.1 q rfl _ _ hy)).to (v' := .agg ⟨xf.cells (.slice y.a xf.data.length y.c)⟩) (by rw [hxf])) ?_
                refine gt_eff rfl (s_call (rsee_t ((RD.mk (rnewD [10] [10]) [] 0 0 0).sees ((fs.take i).map fun x : FactV => x.f)) xf (a := y.a) (c := y.c) (A := A) (by rw [hxf]; exact fun B w h => (hfs B w h).2.2 y (List.mem_of_getElem? hy)) hxo (by rw [hratR]; omega) hrsl) (.cons (by repeat ((conv => arg 2; whnf); first | with_reducible exact .here | ((with_reducible refine Del.hereC ?_); rfl) | ((with_reducible refine Del.hereS ?_ ?_ ?_) <;> rfl) | exact .here | apply Del.there)) (.cons (by repeat ((conv => arg 2; whnf); first | with_reducible exact .here | ((with_reducible refine Del.hereC ?_); rfl) | ((with_reducible refine Del.hereS ?_ ?_ ?_) <;> rfl) | exact .here | apply Del.there)) (.nil)))) ?_
                rintro _ _ ⟨_, ⟨rfl, rfl⟩, rfl⟩
                refine gt_ev rfl ((e_neV rfl rfl).to (v' := .bool false) (congrArg Value.bool (by rw [decide_eq_true ⟨hrel2.r, hrel2.ra⟩]; rfl))) ?_
                refine gt_nil ?_
                exact ⟨(by (conv => lhs; whnf); try first | rfl | (refine congrArg Value.bool ?_; simp_all) | simp_all), (by (conv => lhs; whnf); try first | rfl | (refine congrArg Value.bool ?_; simp_all) | simp_all), (by (conv => lhs; whnf); try first | rfl | (refine congrArg Value.bool ?_; simp_all) | simp_all), (by (conv => lhs; whnf); try first | rfl | (refine congrArg Value.bool ?_; simp_all) | simp_all), (by (conv => lhs; whnf); try first | rfl | (refine congrArg Value.bool ?_; simp_all) | simp_all), (by (conv => lhs; whnf); try first | rfl | (refine congrArg Value.bool ?_; simp_all) | simp_all), (fun _ h => h.fin (L1 := [jud bj (((JudD.mk (newD [10] [10]) 0 0 0).sees ((fs.take i).map fun x : FactV => x.f)).see xf), rjud rj (rnewD [10] [10]).length (((RD.mk (rnewD [10] [10]) [] 0 0 0).sees ((fs.take i).map fun x : FactV => x.f)).see xf), sown 43 8 (.slice (some p) fs.length lc1) fs.length (fcells (c1 ++ (⟨xf, xa, xc⟩ : FactV) :: c2)), sown 5 1 (.slice xa xf.data.length xc) xf.data.length (bv xf.data), allP (c1.map FactV.part ++ c2.map FactV.part), A]) (F := F) (by repeat ((conv => arg 1; whnf); (conv => arg 2; whnf); first | with_reducible exact .done | exact Fin.all _ | refine .cons (by repeat ((conv => arg 2; whnf); first | with_reducible exact .here | ((with_reducible refine Del.hereC ?_); rfl) | ((with_reducible refine Del.hereS ?_ ?_ ?_) <;> rfl) | exact .here | apply Del.there)) ?_ | refine .drop ?_)))⟩
              · skip
                refine alt_evf rfl ((e_ldAc (xs := y.cells) Try.underlying43 rfl Try.sizeOf43 rfl (fun B w h => (hfs B w ((h.fin (L1 := [A]) (F := F) (by repeat ((conv => arg 1; whnf); (conv => arg 2; whnf); first | with_reducible exact .done | exact Fin.all _ | refine .cons (by repeat ((conv => arg 2; whnf); first | with_reducible exact .here | ((with_reducible refine Del.hereC ?_); rfl) | ((with_reducible refine Del.hereS ?_ ?_ ?_) <;> rfl) | exact .here | apply Del.there)) ?_ | refine .drop ?_))).left (L1 := [A]))).2.1 q rfl _ _ hy)).to (v' := .agg ⟨xf.cells (.slice y.a xf.data.length y.c)⟩) (by rw [hxf])) ?_
                refine gt_eff rfl (s_call (see_t ((JudD.mk (newD [10] [10]) 0 0 0).sees ((fs.take i).map fun x : FactV => x.f)) xf (A := sown 5 1 (.slice xa xf.data.length xc) xf.data.length (bv xf.data)) (fun B w h => h.rds .here) hxo (by rw [hratD]; omega)) (.cons (by repeat ((conv => arg 2; whnf); first | with_reducible exact .here | ((with_reducible refine Del.hereC ?_); rfl) | ((with_reducible refine Del.hereS ?_ ?_ ?_) <;> rfl) | exact .here | apply Del.there)) (.cons (by repeat ((conv => arg 2; whnf); first | with_reducible exact .here | ((with_reducible refine Del.hereC ?_); rfl) | ((with_reducible refine Del.hereS ?_ ?_ ?_) <;> rfl) | exact .here | apply Del.there)) (.nil)))) ?_
                rintro _ _ ⟨_, ⟨rfl, rfl⟩, rfl⟩
                refine gt_eff rfl (s_call (rsee_t ((RD.mk (rnewD [10] [10]) [] 0 0 0).sees ((fs.take i).map fun x : FactV => x.f)) xf (a := y.a) (c := y.c) (A := A) (by rw [hxf]; exact fun B w h => (hfs B w h).2.2 y (List.mem_of_getElem? hy)) hxo (by rw [hratR]; omega) hrsl) (.cons (by repeat ((conv => arg 2; whnf); first | with_reducible exact .here | ((with_reducible refine Del.hereC ?_); rfl) | ((with_reducible refine Del.hereS ?_ ?_ ?_) <;> rfl) | exact .here | apply Del.there)) (.cons (by repeat ((conv => arg 2; whnf); first | with_reducible exact .here | ((with_reducible refine Del.hereC ?_); rfl) | ((with_reducible refine Del.hereS ?_ ?_ ?_) <;> rfl) | exact .here | apply Del.there)) (.nil)))) ?_
                rintro _ _ ⟨_, ⟨rfl, rfl⟩, rfl⟩
                refine gt_ev rfl ((e_neV rfl rfl).to (v' := .bool false) (congrArg Value.bool (by rw [decide_eq_true ⟨hrel2.r, hrel2.ra⟩]; rfl))) ?_
                refine gt_nil ?_
                exact ⟨(by (conv => lhs; whnf); try first | rfl | (refine congrArg Value.bool ?_; simp_all) | simp_all), (by (conv => lhs; whnf); try first | rfl | (refine congrArg Value.bool ?_; simp_all) | simp_all), (by (conv => lhs; whnf); try first | rfl | (refine congrArg Value.bool ?_; simp_all) | simp_all), (by (conv => lhs; whnf); try first | rfl | (refine congrArg Value.bool ?_; simp_all) | simp_all), (by (conv => lhs; whnf); try first | rfl | (refine congrArg Value.bool ?_; simp_all) | simp_all), (by (conv => lhs; whnf); try first | rfl | (refine congrArg Value.bool ?_; simp_all) | simp_all), (fun _ h => h.fin (L1 := [jud bj (((JudD.mk (newD [10] [10]) 0 0 0).sees ((fs.take i).map fun x : FactV => x.f)).see xf), rjud rj (rnewD [10] [10]).length (((RD.mk (rnewD [10] [10]) [] 0 0 0).sees ((fs.take i).map fun x : FactV => x.f)).see xf), sown 43 8 (.slice (some p) fs.length lc1) fs.length (fcells (c1 ++ (⟨xf, xa, xc⟩ : FactV) :: c2)), sown 5 1 (.slice xa xf.data.length xc) xf.data.length (bv xf.data), allP (c1.map FactV.part ++ c2.map FactV.part), A]) (F := F) (by repeat ((conv => arg 1; whnf); (conv => arg 2; whnf); first | with_reducible exact .done | exact Fin.all _ | refine .cons (by repeat ((conv => arg 2; whnf); first | with_reducible exact .here | ((with_reducible refine Del.hereC ?_); rfl) | ((with_reducible refine Del.hereS ?_ ?_ ?_) <;> rfl) | exact .here | apply Del.there)) ?_ | refine .drop ?_)))⟩
            · rintro E L ⟨s0, s5, s6, s7, s8, s58, hL⟩
              refine gc_imp hL ?_
              refine gc_slot 0 _ ?_ s0
              refine gc_slot 5 _ ?_ s5
              refine gc_slot 6 _ ?_ s6
              refine gc_slot 7 _ ?_ s7
              refine gc_slot 8 _ ?_ s8
              refine gc_slot 58 _ ?_ s58
              clear hL s0 s5 s6 s7 s8 s58
              refine gc_false ?_
              refine gc_skip ?_
              refine gc_seq ?_
              refine gc_seq ?_
              refine gc_draw (D := []) (fin := none) (plan := [(true, 0), (true, 1), (true, 2), (true, 3), (true, 4), (true, 5), (true, 6), (true, 7), (true, 8), (true, 9), (true, 10), (true, 11), (true, 12)]) rfl (by kernel_rfl) (by kernel_rfl) rfl .nil ?_
              refine gp_ev rfl (e_mv) ?_
              refine gp_ev rfl (e_mv) ?_
              refine gp_ev rfl (e_iaA (q := i) Try.underlying26 Try.sizeOf43 rfl rfl rfl (by omega)) ?_
              refine gp_ev rfl (e_faA Try.underlying43 rfl rfl Try.sizeOf41) ?_
              refine gp_ev rfl (e_ldc (v := .slice xa xf.data.length xc) Try.underlying41 rfl (fun B w h => facts_at (x := ⟨xf, xa, xc⟩) (la := none) h (by repeat ((conv => arg 2; whnf); first | with_reducible exact .here | ((with_reducible refine Del.hereC ?_); rfl) | ((with_reducible refine Del.hereS ?_ ?_ ?_) <;> rfl) | exact .here | apply Del.there)) hxg (j := 7) rfl)) ?_
              refine gp_ev rfl (e_b2s (bs := xf.data) Try.underlying41 Try.underlying5 Try.underlying9 rfl (fun B w h => h.rds (e := 5) (by repeat ((conv => arg 2; whnf); first | with_reducible exact .here | ((with_reducible refine Del.hereC ?_); rfl) | ((with_reducible refine Del.hereS ?_ ?_ ?_) <;> rfl) | exact .here | apply Del.there)))) ?_
              refine gp_ev rfl (e_mv) ?_
              refine gp_ev rfl (e_mv) ?_
              refine gp_ev rfl (e_iaA (q := i) Try.underlying26 Try.sizeOf43 rfl rfl rfl (by omega)) ?_
              refine gp_ev rfl (e_faA Try.underlying43 rfl rfl Try.sizeOf41) ?_
              refine gp_ev rfl (e_ldc (v := .slice y.a y.f.data.length y.c) Try.underlying41 rfl (fun B w h => (hfs B w ((h.fin (L1 := [A]) (F := F) (by repeat ((conv => arg 1; whnf); (conv => arg 2; whnf); first | with_reducible exact .done | exact Fin.all _ | refine .cons (by repeat ((conv => arg 2; whnf); first | with_reducible exact .here | ((with_reducible refine Del.hereC ?_); rfl) | ((with_reducible refine Del.hereS ?_ ?_ ?_) <;> rfl) | exact .here | apply Del.there)) ?_ | refine .drop ?_))).left (L1 := [A]))).2.1 q rfl _ _ hy 7 _ rfl)) ?_
              refine gp_ev rfl (e_b2s (bs := y.f.data) Try.underlying41 Try.underlying5 Try.underlying9 rfl (fun B w h => (hfs B w ((h.fin (L1 := [A]) (F := F) (by repeat ((conv => arg 1; whnf); (conv => arg 2; whnf); first | with_reducible exact .done | exact Fin.all _ | refine .cons (by repeat ((conv => arg 2; whnf); first | with_reducible exact .here | ((with_reducible refine Del.hereC ?_); rfl) | ((with_reducible refine Del.hereS ?_ ?_ ?_) <;> rfl) | exact .here | apply Del.there)) ?_ | refine .drop ?_))).left (L1 := [A]))).2.2 y (List.mem_of_getElem? hy))) ?_
              refine gp_ev rfl ((e_nes rfl rfl).to (v' := .bool false) (congrArg Value.bool (by rw [hxf]; simp))) ?_
              refine gp_nil ?_
              refine gc_false ?_
              refine gc_skip ?_
              refine gc_seq ?_
              refine gc_region ?_
              refine g_ev (e_mv) ?_
              refine g_ev (e_mv) ?_
              refine g_ev (e_iaA (q := i) Try.underlying26 Try.sizeOf43 rfl rfl rfl (by omega)) ?_
              refine g_ev (e_faA Try.underlying43 rfl rfl Try.sizeOf41) ?_
              refine g_ev (e_ldc (v := .slice xa xf.data.length xc) Try.underlying41 rfl (fun B w h => facts_at (x := ⟨xf, xa, xc⟩) (la := none) h (by repeat ((conv => arg 2; whnf); first | with_reducible exact .here | ((with_reducible refine Del.hereC ?_); rfl) | ((with_reducible refine Del.hereS ?_ ?_ ?_) <;> rfl) | exact .here | apply Del.there)) hxg (j := 7) rfl)) ?_
              refine g_ev (e_len Try.underlying41 rfl) ?_
              refine g_ev (e_mv) ?_
              refine g_nil ?_
              refine gc_block ?_
              refine gc_loop (α := Nat × List UInt8) (fun z E L => (z.1 ≤ xf.data.length) ∧ (z.2.length = xf.data.length) ∧ E 0 = .slice (some q) fs.length sc ∧ E 5 = .slice (some p) fs.length lc1 ∧ E 6 = .pointer (some ⟨bj, 0, none⟩) ∧ E 7 = .pointer (some ⟨rj, 0, none⟩) ∧ E 8 = .int .i64 (i : Int) ∧ E 77 = .int .i64 (xf.data.length : Int) ∧ E 78 = .int .i64 (z.1 : Int) ∧ ∀ w, Sat B w L → Sat B w (jud bj (((JudD.mk (newD [10] [10]) 0 0 0).sees ((fs.take i).map fun x : FactV => x.f)).see xf) :: rjud rj (rnewD [10] [10]).length (((RD.mk (rnewD [10] [10]) [] 0 0 0).sees ((fs.take i).map fun x : FactV => x.f)).see xf) :: sown 43 8 (.slice (some p) fs.length lc1) fs.length (fcells (c1 ++ (⟨xf, xa, xc⟩ : FactV) :: c2)) :: sown 5 1 (.slice xa xf.data.length xc) xf.data.length (bv z.2) :: allP (c1.map FactV.part ++ c2.map FactV.part) :: A :: F)) (fun z => xf.data.length - z.1) ((0, xf.data)) ?_ ?_
              · exact ⟨Nat.zero_le _, rfl, (by (conv => lhs; whnf); try rfl), (by (conv => lhs; whnf); try rfl), (by (conv => lhs; whnf); try rfl), (by (conv => lhs; whnf); try rfl), (by (conv => lhs; whnf); try rfl), (by (conv => lhs; whnf); try rfl), (by (conv => lhs; whnf); try rfl), (fun _ h => h.fin (L1 := [jud bj (((JudD.mk (newD [10] [10]) 0 0 0).sees ((fs.take i).map fun x : FactV => x.f)).see xf), rjud rj (rnewD [10] [10]).length (((RD.mk (rnewD [10] [10]) [] 0 0 0).sees ((fs.take i).map fun x : FactV => x.f)).see xf), sown 43 8 (.slice (some p) fs.length lc1) fs.length (fcells (c1 ++ (⟨xf, xa, xc⟩ : FactV) :: c2)), sown 5 1 (.slice xa xf.data.length xc) xf.data.length (bv xf.data), allP (c1.map FactV.part ++ c2.map FactV.part), A]) (F := F) (by repeat ((conv => arg 1; whnf); (conv => arg 2; whnf); first | with_reducible exact .done | exact Fin.all _ | refine .cons (by repeat ((conv => arg 2; whnf); first | with_reducible exact .here | ((with_reducible refine Del.hereC ?_); rfl) | ((with_reducible refine Del.hereS ?_ ?_ ?_) <;> rfl) | exact .here | apply Del.there)) ?_ | refine .drop ?_)))⟩
              · rintro ⟨j, ds⟩ E L ⟨hj, hds, s0, s5, s6, s7, s8, s77, s78, hL⟩
                dsimp only at hj hds s0 s5 s6 s7 s8 s77 s78 hL
                refine gc_imp hL ?_
                refine gc_slot 0 _ ?_ s0
                refine gc_slot 5 _ ?_ s5
                refine gc_slot 6 _ ?_ s6
                refine gc_slot 7 _ ?_ s7
                refine gc_slot 8 _ ?_ s8
                refine gc_slot 77 _ ?_ s77
                refine gc_slot 78 _ ?_ s78
                clear hL s0 s5 s6 s7 s8 s77 s78
                refine gc_seq ?_
                refine gc_region ?_
                refine g_ev (e_lt rfl rfl) ?_
                refine g_nil ?_
                refine gc_seq ?_
                first | refine gc_dec rfl (fun c79 => ?_) (fun c79 => ?_) | refine gc_ndec rfl (fun c79 => ?_) (fun c79 => ?_) | refine gc_cond rfl (fun c79 => ?_) (fun c79 => ?_)
                · skip
                  refine gc_skip ?_
                  refine gc_seq ?_
                  refine gc_block ?_
                  refine gc_seq ?_
                  refine gc_region ?_
                  refine g_ev (e_mv) ?_
                  refine g_ev (e_as) ?_
                  refine g_nil ?_
                  refine gc_region ?_
                  obtain ⟨b, hb⟩ : ∃ b, ds[j]? = some b := ⟨_, List.getElem?_eq_getElem (by omega)⟩
                  refine g_own (m := xf.data.length) (by omega) (v := .slice xa xf.data.length xc) (e := 5) (k := 1) (by repeat ((conv => arg 2; whnf); first | with_reducible exact .here | ((with_reducible refine Del.hereC ?_); rfl) | ((with_reducible refine Del.hereS ?_ ?_ ?_) <;> rfl) | exact .here | apply Del.there)) fun bd cap rest hv hle hmax hlen hrest => ?_
                  injection hv with hv1 hv2 hv3
                  subst hv1; subst hv3
                  refine g_ev (e_mv) ?_
                  refine g_ev (e_mv) ?_
                  refine g_ev (e_iaA (q := i) Try.underlying26 Try.sizeOf43 rfl rfl rfl (by omega)) ?_
                  refine g_ev (e_faA Try.underlying43 rfl rfl Try.sizeOf41) ?_
                  refine g_ev (e_ldc (v := .slice (some ⟨bd, 0, none⟩) xf.data.length xc) Try.underlying41 rfl (fun B w h => facts_at (x := ⟨xf, (some ⟨bd, 0, none⟩), xc⟩) (la := none) h (by repeat ((conv => arg 2; whnf); first | with_reducible exact .here | ((with_reducible refine Del.hereC ?_); rfl) | ((with_reducible refine Del.hereS ?_ ?_ ?_) <;> rfl) | exact .here | apply Del.there)) hxg (j := 7) rfl)) ?_
                  refine g_ev (e_mv) ?_
                  refine g_ev (e_ia (o := j) (q := j) Try.underlying41 Try.sizeOf5 rfl rfl rfl (by omega) (by omega)) ?_
                  refine g_ev (e_ld Try.underlying5 rfl (by repeat ((conv => arg 2; whnf); first | with_reducible exact .here | ((with_reducible refine Del.hereC ?_); rfl) | ((with_reducible refine Del.hereS ?_ ?_ ?_) <;> rfl) | exact .here | apply Del.there)) (bv_get hb)) ?_
                  refine g_ev ((e_xor rfl rfl).to (v' := .int .u8 ((xorb b).toNat : Int)) (congrArg _ (xorb_eq b))) ?_
                  refine g_ev (e_ia (o := j) (q := j) Try.underlying41 Try.sizeOf5 rfl rfl rfl (by omega) (by omega)) ?_
                  refine g_eff (s_st (u := .int .u8 ((xorb b).toNat : Int)) Try.sizeOf5 rfl (by repeat ((conv => arg 3; whnf); first | with_reducible exact .here | apply Turn.there)) rfl (by rw [List.length_append, bv_len]; omega)) ?_
                  rintro _ _ ⟨rfl, rfl⟩
                  refine g_nil ?_
                  refine gc_region ?_
                  refine g_ev ((e_addw rfl rfl).to (v' := .int .i64 ((j + 1 : Nat) : Int)) (congrArg _ (wrapN (by omega) (by omega)))) ?_
                  refine g_ev (e_mv) ?_
                  refine g_nil ?_
                  refine Exists.intro ((j + 1, ds.set j (xorb b))) (And.intro ⟨(by show j + 1 ≤ _; omega), (by show (ds.set j _).length = _; rw [List.length_set]; exact hds), (by (conv => lhs; whnf); try rfl), (by (conv => lhs; whnf); try rfl), (by (conv => lhs; whnf); try rfl), (by (conv => lhs; whnf); try rfl), (by (conv => lhs; whnf); try rfl), (by (conv => lhs; whnf); try rfl), (by (conv => lhs; whnf); try rfl), (fun w h => by rw [bv_set _ _ _ _ (show j < ds.length by omega)] at h; exact h.fin (L1 := [jud bj (((JudD.mk (newD [10] [10]) 0 0 0).sees ((fs.take i).map fun x : FactV => x.f)).see xf), rjud rj (rnewD [10] [10]).length (((RD.mk (rnewD [10] [10]) [] 0 0 0).sees ((fs.take i).map fun x : FactV => x.f)).see xf), sown 43 8 (.slice (some p) fs.length lc1) fs.length (fcells (c1 ++ (⟨xf, some ⟨bd, 0, none⟩, xc⟩ : FactV) :: c2)), sown 5 1 (.slice (some ⟨bd, 0, none⟩) xf.data.length xc) xf.data.length (bv (ds.set j (xorb b))), allP (c1.map FactV.part ++ c2.map FactV.part), A]) (F := F) (.cons (by repeat ((conv => arg 2; whnf); first | with_reducible exact .here | ((with_reducible refine Del.hereC ?_); rfl) | ((with_reducible refine Del.hereS ?_ ?_ ?_) <;> rfl) | exact .here | apply Del.there)) (.cons (by repeat ((conv => arg 2; whnf); first | with_reducible exact .here | ((with_reducible refine Del.hereC ?_); rfl) | ((with_reducible refine Del.hereS ?_ ?_ ?_) <;> rfl) | exact .here | apply Del.there)) (.cons (by repeat ((conv => arg 2; whnf); first | with_reducible exact .here | ((with_reducible refine Del.hereC ?_); rfl) | ((with_reducible refine Del.hereS ?_ ?_ ?_) <;> rfl) | exact .here | apply Del.there)) (.fold (M := [blk bd 5 (bv (ds.set j (xorb b)) ++ rest)]) (own_fold rfl (by rw [bv_len, List.length_set]; omega) hle hmax (by rw [bv_len, List.length_set]; rw [bv_len] at hrest; omega)) (by repeat ((conv => arg 1; whnf); (conv => arg 2; whnf); first | with_reducible exact .done | exact Fin.all _ | refine .cons (by repeat ((conv => arg 2; whnf); first | with_reducible exact .here | ((with_reducible refine Del.hereC ?_); rfl) | ((with_reducible refine Del.hereS ?_ ?_ ?_) <;> rfl) | exact .here | apply Del.there)) ?_ | refine .drop ?_)))))))⟩ (by show _ - (j + 1) < _ - j; omega))
                · skip
                  refine gc_exit ?_
                  refine gc_region ?_
                  refine g_ev (e_mv) ?_
                  refine g_ev ((e_addw rfl rfl).to (v' := .int .i64 ((i + 1 : Nat) : Int)) (congrArg _ (wrapN (by omega) (by omega)))) ?_
                  refine g_ev (e_as) ?_
                  refine g_nil ?_
                  have hD1 : ((JudD.mk (newD [10] [10]) 0 0 0).sees ((fs.take (i + 1)).map fun x : FactV => x.f)) = (((JudD.mk (newD [10] [10]) 0 0 0).sees ((fs.take i).map fun x : FactV => x.f)).see xf) := by rw [hxf]; exact e_vc _ fs hy
                  have hR1 : ((RD.mk (rnewD [10] [10]) [] 0 0 0).sees ((fs.take (i + 1)).map fun x : FactV => x.f)) = (((RD.mk (rnewD [10] [10]) [] 0 0 0).sees ((fs.take i).map fun x : FactV => x.f)).see xf) := by rw [List.take_add_one, hy, List.map_append, hxf]; exact rsees_snoc _ _ _
                  refine Exists.intro ((i + 1, c1 ++ [(⟨{ xf with data := ds }, xa, xc⟩ : FactV)], c2)) (And.intro ⟨(by show i + 1 ≤ _; omega), (by show (c1 ++ [_]).length = i + 1; rw [List.length_append, hc1]; rfl), hc2, (by (conv => lhs; whnf); try rfl), (by (conv => lhs; whnf); try rfl), (by (conv => lhs; whnf); try rfl), (by (conv => lhs; whnf); try rfl), (by (conv => lhs; whnf); try rfl), (fun w h => by
                    show Sat B w (jud bj ((JudD.mk (newD [10] [10]) 0 0 0).sees ((fs.take (i + 1)).map fun x : FactV => x.f)) :: rjud rj (rnewD [10] [10]).length ((RD.mk (rnewD [10] [10]) [] 0 0 0).sees ((fs.take (i + 1)).map fun x : FactV => x.f)) :: sown 43 8 (.slice (some p) fs.length lc1) fs.length (fcells ((c1 ++ [(⟨{ xf with data := ds }, xa, xc⟩ : FactV)]) ++ c2)) :: ownD ((c1 ++ [(⟨{ xf with data := ds }, xa, xc⟩ : FactV)]) ++ c2) :: A :: F)
                    rw [hD1, hR1, fcells_same hds]
                    have h1 := ownD_give (c1 := c1) (c2 := c2) (x := (⟨{ xf with data := ds }, xa, xc⟩ : FactV)) (F := jud bj (((JudD.mk (newD [10] [10]) 0 0 0).sees ((fs.take i).map fun x : FactV => x.f)).see xf) :: rjud rj (rnewD [10] [10]).length (((RD.mk (rnewD [10] [10]) [] 0 0 0).sees ((fs.take i).map fun x : FactV => x.f)).see xf) :: sown 43 8 (.slice (some p) fs.length lc1) fs.length (fcells (c1 ++ (⟨xf, xa, xc⟩ : FactV) :: c2)) :: A :: F) (by
                      have h2 := h.fin (L1 := [sown 5 1 (.slice xa xf.data.length xc) xf.data.length (bv ds), allP (c1.map FactV.part ++ c2.map FactV.part), jud bj (((JudD.mk (newD [10] [10]) 0 0 0).sees ((fs.take i).map fun x : FactV => x.f)).see xf), rjud rj (rnewD [10] [10]).length (((RD.mk (rnewD [10] [10]) [] 0 0 0).sees ((fs.take i).map fun x : FactV => x.f)).see xf), sown 43 8 (.slice (some p) fs.length lc1) fs.length (fcells (c1 ++ (⟨xf, xa, xc⟩ : FactV) :: c2)), A]) (F := F) (by repeat ((conv => arg 1; whnf); (conv => arg 2; whnf); first | with_reducible exact .done | exact Fin.all _ | refine .cons (by repeat ((conv => arg 2; whnf); first | with_reducible exact .here | ((with_reducible refine Del.hereC ?_); rfl) | ((with_reducible refine Del.hereS ?_ ?_ ?_) <;> rfl) | exact .here | apply Del.there)) ?_ | refine .drop ?_))
                      have e : (⟨{ xf with data := ds }, xa, xc⟩ : FactV).part = sown 5 1 (.slice xa xf.data.length xc) xf.data.length (bv ds) := by show sown 5 1 (.slice xa ds.length xc) ds.length (bv ds) = _; rw [hds]
                      rw [e]
                      exact h2)
                    rw [show c1 ++ [(⟨{ xf with data := ds }, xa, xc⟩ : FactV)] ++ c2 = c1 ++ (⟨{ xf with data := ds }, xa, xc⟩ : FactV) :: c2 by simp]
                    exact h1.fin (L1 := [jud bj (((JudD.mk (newD [10] [10]) 0 0 0).sees ((fs.take i).map fun x : FactV => x.f)).see xf), rjud rj (rnewD [10] [10]).length (((RD.mk (rnewD [10] [10]) [] 0 0 0).sees ((fs.take i).map fun x : FactV => x.f)).see xf), sown 43 8 (.slice (some p) fs.length lc1) fs.length (fcells (c1 ++ (⟨xf, xa, xc⟩ : FactV) :: c2)), ownD (c1 ++ (⟨{ xf with data := ds }, xa, xc⟩ : FactV) :: c2), A]) (F := F) (by repeat ((conv => arg 1; whnf); (conv => arg 2; whnf); first | with_reducible exact .done | exact Fin.all _ | refine .cons (by repeat ((conv => arg 2; whnf); first | with_reducible exact .here | ((with_reducible refine Del.hereC ?_); rfl) | ((with_reducible refine Del.hereS ?_ ?_ ?_) <;> rfl) | exact .here | apply Del.there)) ?_ | refine .drop ?_)))⟩ (by show _ - (i + 1) < _ - i; omega))
        · skip
          refine gc_exit ?_
          refine gc_seq ?_
          have hti : fs.take i = fs := List.take_of_length_le (by omega)
          have hrel := sees_rel (start_rel (hs := [10]) (ds := [10]) (by intro w hw; simp at hw; omega) (by intro w hw; simp at hw; omega)) ((fs.take i).map fun x : FactV => x.f) (fun f hf => by obtain ⟨x, hx, rfl⟩ := List.mem_map.1 hf; exact (hok x (List.mem_of_mem_take hx)).2) (by simp only [List.length_map, List.length_take]; omega)
          refine gc_rjud (by repeat ((conv => arg 2; whnf); first | with_reducible exact .here | ((with_reducible refine Del.hereC ?_); rfl) | ((with_reducible refine Del.hereS ?_ ?_ ?_) <;> rfl) | exact .here | apply Del.there)) fun ls2 se2 ea2 ec2 sa2 sc2 ta2 tc2 _ _ _ => ?_
          refine gc_draw (D := [jud bj ((JudD.mk (newD [10] [10]) 0 0 0).sees ((fs.take i).map fun x : FactV => x.f))]) (fin := none) (plan := [(true, 0), (true, 2), (true, 3), (true, 4), (true, 5), (false, 1), (true, 6), (true, 7)]) rfl (by kernel_rfl) (by kernel_rfl) rfl (.cons (by repeat ((conv => arg 2; whnf); first | with_reducible exact .here | ((with_reducible refine Del.hereC ?_); rfl) | ((with_reducible refine Del.hereS ?_ ?_ ?_) <;> rfl) | exact .here | apply Del.there)) .nil) ?_
          refine gp_ev rfl (e_mv) ?_
          refine gp_ev rfl (e_mv) ?_
          refine gp_ev rfl (e_nc rfl) ?_
          refine gp_ev rfl (e_fa Try.underlying48 rfl rfl Try.sizeOf34) ?_
          refine gp_ev rfl ((e_ldA Try.underlying34 rfl (by repeat ((conv => arg 2; whnf); first | with_reducible exact .here | ((with_reducible refine Del.hereC ?_); rfl) | ((with_reducible refine Del.hereS ?_ ?_ ?_) <;> rfl) | exact .here | apply Del.there)) Try.sizeOf34 (by simp)).to (v' := .agg ⟨[.int .i64 ((RD.mk (rnewD [10] [10]) [] 0 0 0).sees ((fs.take i).map fun x : FactV => x.f)).r, .int .i64 ((RD.mk (rnewD [10] [10]) [] 0 0 0).sees ((fs.take i).map fun x : FactV => x.f)).ra]⟩) rfl) ?_
          refine gp_eff rfl (s_call (verdict_t _) (.cons (by repeat ((conv => arg 2; whnf); first | with_reducible exact .here | ((with_reducible refine Del.hereC ?_); rfl) | ((with_reducible refine Del.hereS ?_ ?_ ?_) <;> rfl) | exact .here | apply Del.there)) (.nil))) ?_
          rintro _ _ ⟨_, ⟨rfl, rfl⟩, rfl⟩
          refine gp_ev rfl ((e_eqV rfl rfl).to (v' := .bool true) (congrArg Value.bool (decide_eq_true ⟨hrel.r, hrel.ra⟩))) ?_
          refine gp_ev rfl (e_as) ?_
          refine gp_nil ?_
          refine gc_ret ?_
          exact ret1 (v := .bool true) (L1 := [A]) rfl (by (conv => lhs; whnf); try rfl) ⟨rfl, rfl⟩ (fun _ h => h.fin (by repeat ((conv => arg 1; whnf); (conv => arg 2; whnf); first | with_reducible exact .done | exact Fin.all _ | refine .cons (by repeat ((conv => arg 2; whnf); first | with_reducible exact .here | ((with_reducible refine Del.hereC ?_); rfl) | ((with_reducible refine Del.hereS ?_ ?_ ?_) <;> rfl) | exact .here | apply Del.there)) ?_ | refine .drop ?_)))

end Go.Proofs.Ythjimddhnlmlhaa
