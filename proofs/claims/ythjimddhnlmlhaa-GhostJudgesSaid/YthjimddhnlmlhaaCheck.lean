/- The walk of Check; no conditions. -/
import Derived.Test.YthjimddhnlmlhaaNew
namespace Go.Proofs.Ythjimddhnlmlhaa
open Go.Vc

abbrev FactV.part (x : FactV) : HProp := sown 5 1 (.slice x.a x.f.data.length x.c) x.f.data.length (bv x.f.data)
def fcells (fs : List FactV) : List Value := fs.flatMap FactV.cells
def ownD (fs : List FactV) : HProp := allP (fs.map FactV.part)
theorem fcells_len (fs : List FactV) : (fcells fs).length = fs.length * 8 := by
  induction fs with
  | nil => rfl
  | cons x fs ih => unfold fcells at ih ⊢; rw [List.flatMap_cons, List.length_append, ih]; simp; omega
theorem fcells_mid (l1 l2 : List FactV) (x : FactV) (rest : List Value) : fcells (l1 ++ x :: l2) ++ rest = fcells l1 ++ (x.cells ++ (fcells l2 ++ rest)) := by
  simp [fcells, List.flatMap_append, List.flatMap_cons, List.append_assoc]
theorem fcells_get {fs : List FactV} {i : Nat} {x : FactV} (h : fs[i]? = some x) {j : Nat} {u : Value} (hj : x.cells[j]? = some u) : (fcells fs)[i * 8 + j]? = some u := by
  obtain ⟨hi, rfl⟩ := List.getElem?_eq_some_iff.1 h
  have e : fs = fs.take i ++ fs[i] :: fs.drop (i + 1) := by rw [List.getElem_cons_drop hi, List.take_append_drop]
  have hl : (fcells (fs.take i)).length = i * 8 := by rw [fcells_len, List.length_take]; omega
  rw [e, ← List.append_nil (fcells _), fcells_mid, ← hl, mid_get]
  have hlt : j < (fs[i]).cells.length := (List.getElem?_eq_some_iff.1 hj).1
  rw [List.getElem?_append_left hlt]
  exact hj
theorem fcells_inv {fs : List FactV} {q : Nat} {u : Value} (h : (fcells fs)[q]? = some u) : ∃ i j x, q = i * 8 + j ∧ fs[i]? = some x ∧ x.cells[j]? = some u := by
  have hq : q < fs.length * 8 := by rw [← fcells_len]; exact (List.getElem?_eq_some_iff.1 h).1
  have hi : q / 8 < fs.length := by omega
  refine ⟨q / 8, q % 8, fs[q / 8], by omega, List.getElem?_eq_getElem hi, ?_⟩
  have hj : (fs[q / 8]).cells[q % 8]? = some ((fs[q / 8]).cells[q % 8]'(by simp; omega)) := List.getElem?_eq_getElem _
  rw [hj]
  have := fcells_get (List.getElem?_eq_getElem hi) hj
  rw [show q / 8 * 8 + q % 8 = q by omega, h] at this
  exact this.symm
theorem rds_of_fs {w : World} {sa : Option Addr} {sc : Nat} {fs : List FactV} (h : RdFs w sa fs) (hs : sa = none → sc = 0) : Rds w 8 (.slice sa fs.length sc) fs.length (fcells fs) := by
  refine ⟨fcells_len fs, sa, sc, rfl, fun e => ⟨by rw [h.1 e]; rfl, hs e⟩, fun ad had q u hu => ?_⟩
  obtain ⟨i, j, x, rfl, hi, hj⟩ := fcells_inv hu
  rw [← Addr.add_add]
  exact h.2.1 ad had i x hi j u hj
theorem fs_of_rds {w : World} {sa : Option Addr} {sc : Nat} {fs : List FactV} (h : Rds w 8 (.slice sa fs.length sc) fs.length (fcells fs)) (hd : ∀ x ∈ fs, x.rds w) : RdFs w sa fs := by
  obtain ⟨_, a', c', h1, h2, h3⟩ := h
  cases h1
  refine ⟨fun e => List.eq_nil_of_length_eq_zero (h2 e).1, fun ad had i x hi j u hj => ?_, hd⟩
  rw [Addr.add_add]
  exact h3 ad had _ u (fcells_get hi hj)
theorem ownD_rds {B w : World} : ∀ {fs : List FactV} {F : List HProp}, Sat B w (ownD fs :: F) → ∀ x ∈ fs, x.rds w := by
  intro fs
  induction fs with
  | nil => intro F _ x hx; cases hx
  | cons y fs ih =>
    intro F h x hx
    have h1 : Sat B w (y.part :: (fs.map FactV.part ++ F)) := h.unpack
    rcases List.mem_cons.1 hx with rfl | hx
    · exact h1.rds .here
    · exact ih (Sat.pack h1.tail) x hx
/-- Facts with their own data. -/
def factsM (la : Option Addr) (lc : Nat) (fs : List FactV) : HProp := allP [sown 43 8 (.slice la fs.length lc) fs.length (fcells fs), ownD fs]
theorem factsM_rd {B w : World} {la : Option Addr} {lc : Nat} {fs : List FactV} (h : Sat B w [factsM la lc fs]) : RdFs w la fs := by
  have h1 := Sat.unpack (F := []) h
  refine fs_of_rds (h1.rds .here) (ownD_rds (F := []) h1.tail)
theorem ownD_snoc {B w : World} {fs : List FactV} {x : FactV} {F : List HProp} (h : Sat B w (ownD fs :: x.part :: F)) : Sat B w (ownD (fs ++ [x]) :: F) := by
  refine Sat.pack ?_
  have h1 := h.unpack
  rw [List.map_append, List.append_assoc]
  exact h1
theorem ownD_nil (f) (h : sepL [] f) : ownD [] f := h
theorem e_vc (D : JudD) (fs : List FactV) {i : Nat} {x : FactV} (h : fs[i]? = some x) : D.sees ((fs.take (i + 1)).map (·.f)) = (D.sees ((fs.take i).map (·.f))).see x.f := by
  rw [List.take_add_one, h, List.map_append]; exact sees_snoc _ _ _

theorem check_t {A A2 : HProp} {nv : Value} {hs ds : List Int} (hnet : IsNet A nv hs ds) (hl : hs.length ≤ 1000) {sa : Option Addr} {sc : Nat} {fs : List FactV} (hfs : ∀ B w, Sat B w [A2] → RdFs w sa fs) (hok : ∀ x ∈ fs, x.f.ok) (hn : fs.length ≤ 1000000) : Tri Try.prog 15 #[nv, .slice sa fs.length sc] [A, A2] (isR (.agg ⟨[.int .i64 (checkA hs ds (fs.map (·.f))).r, .int .i64 (checkA hs ds (fs.map (·.f))).ra]⟩) [A, A2]) := by
  obtain ⟨ah, ch, ad, cd, mx, rfl, hrd⟩ := hnet
  refine tri_of Try.call15 Try.func15 rfl fun B F => ?_
  refine gc_seq ?_
  refine gc_region ?_
  refine g_eff (s_bx) ?_
  rintro _ _ ⟨b2, rfl, rfl⟩
  refine g_eff (s_al Try.zeroValue34) ?_
  rintro _ _ ⟨b4, rfl, rfl⟩
  refine g_nil ?_
  refine gc_seq ?_
  refine gc_region ?_
  refine g_ev (e_ldA Try.underlying25 rfl (by repeat ((conv => arg 2; whnf); first | with_reducible exact .here | ((with_reducible refine Del.hereC ?_); rfl) | ((with_reducible refine Del.hereS ?_ ?_ ?_) <;> rfl) | exact .here | apply Del.there)) Try.sizeOf25 (by first | exact Nat.le_of_ble_eq_true rfl | simp)) ?_
  refine g_eff (s_call (new_t hrd hl) (.cons (by repeat ((conv => arg 2; whnf); first | with_reducible exact .here | ((with_reducible refine Del.hereC ?_); rfl) | ((with_reducible refine Del.hereS ?_ ?_ ?_) <;> rfl) | exact .here | apply Del.there)) (.nil))) ?_
  rintro _ _ ⟨_, ⟨bj, rfl, rfl⟩, rfl⟩
  refine g_ev (e_as) ?_
  refine g_nil ?_
  refine gc_seq ?_
  refine gc_seq ?_
  refine gc_region ?_
  refine g_ev (e_mv) ?_
  refine g_ev (e_len Try.underlying26 rfl) ?_
  refine g_ev (e_mv) ?_
  refine g_nil ?_
  refine gc_block ?_
  refine gc_loop (α := Nat) (fun i E L => (i ≤ fs.length) ∧ E 4 = .pointer (some ⟨b4, 0, none⟩) ∧ E 5 = .pointer (some ⟨bj, 0, none⟩) ∧ E 10 = .slice sa fs.length sc ∧ E 11 = .int .i64 (fs.length : Int) ∧ E 12 = .int .i64 (i : Int) ∧ ∀ w, Sat B w L → Sat B w (blk b4 34 [.int .i64 0, .int .i64 0] :: jud bj ((JudD.mk (newD hs ds) 0 0 0).sees ((fs.take i).map (·.f))) :: A :: A2 :: F)) (fun i => fs.length - i) 0 ?_ ?_
  · exact ⟨Nat.zero_le _, (by (conv => lhs; whnf); try rfl), (by (conv => lhs; whnf); try rfl), (by (conv => lhs; whnf); try rfl), (by (conv => lhs; whnf); try rfl), (by (conv => lhs; whnf); try rfl), (fun _ h => h.fin (L1 := [blk b4 34 [.int .i64 0, .int .i64 0], jud bj ⟨newD hs ds, 0, 0, 0⟩, A, A2]) (F := F) (by repeat ((conv => arg 1; whnf); (conv => arg 2; whnf); first | with_reducible exact .done | exact Fin.all _ | refine .cons (by repeat ((conv => arg 2; whnf); first | with_reducible exact .here | ((with_reducible refine Del.hereC ?_); rfl) | ((with_reducible refine Del.hereS ?_ ?_ ?_) <;> rfl) | exact .here | apply Del.there)) ?_ | refine .drop ?_)))⟩
  · rintro i E L ⟨hi, s4, s5, s10, s11, s12, hL⟩
    refine gc_imp hL ?_
    refine gc_slot 4 _ ?_ s4
    refine gc_slot 5 _ ?_ s5
    refine gc_slot 10 _ ?_ s10
    refine gc_slot 11 _ ?_ s11
    refine gc_slot 12 _ ?_ s12
    clear hL s4 s5 s10 s11 s12
    refine gc_seq ?_
    refine gc_region ?_
    refine g_ev (e_lt rfl rfl) ?_
    refine g_nil ?_
    refine gc_seq ?_
    first | refine gc_dec rfl (fun c13 => ?_) (fun c13 => ?_) | refine gc_ndec rfl (fun c13 => ?_) (fun c13 => ?_) | refine gc_cond rfl (fun c13 => ?_) (fun c13 => ?_)
    · skip
      refine gc_skip ?_
      refine gc_seq ?_
      refine gc_block ?_
      refine gc_seq ?_
      refine gc_region ?_
      obtain ⟨x, hx⟩ : ∃ x, fs[i]? = some x := ⟨_, List.getElem?_eq_getElem (by omega)⟩
      refine g_fact (φ := ∃ p, sa = some p) (fun w h => (by have h0 := (hfs _ w ((h.fin (L1 := [A2]) (F := F) (by repeat ((conv => arg 1; whnf); (conv => arg 2; whnf); first | with_reducible exact .done | exact Fin.all _ | refine .cons (by repeat ((conv => arg 2; whnf); first | with_reducible exact .here | ((with_reducible refine Del.hereC ?_); rfl) | ((with_reducible refine Del.hereS ?_ ?_ ?_) <;> rfl) | exact .here | apply Del.there)) ?_ | refine .drop ?_))).left (L1 := [A2]))).1; cases sa with | none => rw [h0 rfl] at hx; cases hx | some p => exact ⟨p, rfl⟩)) fun ⟨p, e1⟩ => ?_
      subst e1
      refine g_ev (e_iaA (q := i) Try.underlying26 Try.sizeOf43 rfl rfl rfl (by omega)) ?_
      refine g_ev (e_ldAc (xs := x.cells) Try.underlying43 rfl Try.sizeOf43 rfl (fun B w h => (hfs B w ((h.fin (L1 := [A2]) (F := F) (by repeat ((conv => arg 1; whnf); (conv => arg 2; whnf); first | with_reducible exact .done | exact Fin.all _ | refine .cons (by repeat ((conv => arg 2; whnf); first | with_reducible exact .here | ((with_reducible refine Del.hereC ?_); rfl) | ((with_reducible refine Del.hereS ?_ ?_ ?_) <;> rfl) | exact .here | apply Del.there)) ?_ | refine .drop ?_))).left (L1 := [A2]))).2.1 p rfl _ _ hx)) ?_
      refine g_eff (s_al Try.zeroValue43) ?_
      rintro _ _ ⟨b7, rfl, rfl⟩
      refine g_eff (s_stA Try.sizeOf43 rfl rfl (by repeat ((conv => arg 3; whnf); first | with_reducible exact .here | apply Turn.there))) ?_
      rintro _ _ ⟨rfl, rfl⟩
      refine g_nil ?_
      refine gc_region ?_
      refine g_ev (e_mv) ?_
      refine g_ev (e_ldA Try.underlying43 rfl (by repeat ((conv => arg 2; whnf); first | with_reducible exact .here | ((with_reducible refine Del.hereC ?_); rfl) | ((with_reducible refine Del.hereS ?_ ?_ ?_) <;> rfl) | exact .here | apply Del.there)) Try.sizeOf43 (by first | exact Nat.le_of_ble_eq_true rfl | simp)) ?_
      refine g_eff (s_call (see_t ((JudD.mk (newD hs ds) 0 0 0).sees ((fs.take i).map (·.f))) x.f (A := A2) (fun B w h => (hfs B w h).2.2 x (List.mem_of_getElem? hx)) (hok x (List.mem_of_getElem? hx)) (by rw [sees_at, List.length_map, List.length_take]; show 0 + _ < _; omega)) (.cons (by repeat ((conv => arg 2; whnf); first | with_reducible exact .here | ((with_reducible refine Del.hereC ?_); rfl) | ((with_reducible refine Del.hereS ?_ ?_ ?_) <;> rfl) | exact .here | apply Del.there)) (.cons (by repeat ((conv => arg 2; whnf); first | with_reducible exact .here | ((with_reducible refine Del.hereC ?_); rfl) | ((with_reducible refine Del.hereS ?_ ?_ ?_) <;> rfl) | exact .here | apply Del.there)) (.nil)))) ?_
      rintro _ _ ⟨_, ⟨rfl, rfl⟩, rfl⟩
      refine g_nil ?_
      refine gc_region ?_
      refine g_ev ((e_addw rfl rfl).to (v' := .int .i64 ((i + 1 : Nat) : Int)) (congrArg _ (wrapN (by omega) (by omega)))) ?_
      refine g_ev (e_mv) ?_
      refine g_nil ?_
      refine Exists.intro (i + 1) (And.intro ⟨(by omega), (by (conv => lhs; whnf); try rfl), (by (conv => lhs; whnf); try rfl), (by (conv => lhs; whnf); try rfl), (by (conv => lhs; whnf); try rfl), (by (conv => lhs; whnf); try rfl), (fun w h => by rw [e_vc _ _ hx]; exact h.fin (L1 := [blk b4 34 [.int .i64 0, .int .i64 0], jud bj (((JudD.mk (newD hs ds) 0 0 0).sees ((fs.take i).map (·.f))).see x.f), A, A2]) (F := F) (by repeat ((conv => arg 1; whnf); (conv => arg 2; whnf); first | with_reducible exact .done | exact Fin.all _ | refine .cons (by repeat ((conv => arg 2; whnf); first | with_reducible exact .here | ((with_reducible refine Del.hereC ?_); rfl) | ((with_reducible refine Del.hereS ?_ ?_ ?_) <;> rfl) | exact .here | apply Del.there)) ?_ | refine .drop ?_)))⟩ (by omega))
    · skip
      refine gc_exit ?_
      refine gc_seq ?_
      refine gc_region ?_
      refine g_ev (e_mv) ?_
      refine g_eff (s_call (verdict_t _) (.cons (by repeat ((conv => arg 2; whnf); first | with_reducible exact .here | ((with_reducible refine Del.hereC ?_); rfl) | ((with_reducible refine Del.hereS ?_ ?_ ?_) <;> rfl) | exact .here | apply Del.there)) (.nil))) ?_
      rintro _ _ ⟨_, ⟨rfl, rfl⟩, rfl⟩
      refine g_eff (s_stA Try.sizeOf34 rfl rfl (by repeat ((conv => arg 3; whnf); first | with_reducible exact .here | apply Turn.there))) ?_
      rintro _ _ ⟨rfl, rfl⟩
      refine g_nil ?_
      refine gc_ret ?_
      have hfin : ((JudD.mk (newD hs ds) 0 0 0).sees ((fs.take i).map (·.f))) = checkA hs ds (fs.map (·.f)) := by rw [List.take_of_length_le (by omega)]; rfl
      exact retc (L1 := [A, A2]) rfl (by (conv => lhs; whnf)) Try.underlying34 (by repeat ((conv => arg 2; whnf); first | with_reducible exact .here | ((with_reducible refine Del.hereC ?_); rfl) | ((with_reducible refine Del.hereS ?_ ?_ ?_) <;> rfl) | exact .here | apply Del.there)) Try.sizeOf34 rfl rfl ⟨(by rw [← hfin]; rfl), rfl⟩ (fun _ h => h.fin (by repeat ((conv => arg 1; whnf); (conv => arg 2; whnf); first | with_reducible exact .done | exact Fin.all _ | refine .cons (by repeat ((conv => arg 2; whnf); first | with_reducible exact .here | ((with_reducible refine Del.hereC ?_); rfl) | ((with_reducible refine Del.hereS ?_ ?_ ?_) <;> rfl) | exact .here | apply Del.there)) ?_ | refine .drop ?_)))

end Go.Proofs.Ythjimddhnlmlhaa
