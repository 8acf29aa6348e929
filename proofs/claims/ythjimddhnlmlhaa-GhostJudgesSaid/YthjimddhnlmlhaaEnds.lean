/- The walks of an end, its ticks, output and what it takes; no conditions. -/
import Derived.Test.YthjimddhnlmlhaaVc
import Derived.Test.YthjimddhnlmlhaaProg
import Derived.KernelRfl
namespace Go.Proofs.Ythjimddhnlmlhaa
open Go.Vc
theorem pl61 : plOK Try.prog 61 #[(0, 1), (1, 1), (2, 1), (3, 1), (4, 1), (5, 1), (6, 1), (7, 1), (8, 1), (9, 1)] := by intro fs h w; rw [Try.underlying61] at h; cases h; simp
theorem pl75 : plOK Try.prog 75 #[(0, 1), (1, 1), (2, 1), (3, 1)] := by intro fs h w; rw [Try.underlying75] at h; cases h; simp

/-- An end, as it lies in memory: 'val' is the slice of its value, 'vs' its bytes. -/
structure EndS where
  watch : Int
  sess : Nat
  num : Nat
  some_ : Bool
  va : Option Addr
  vc : Nat
  in_ : Nat
  since : Int
  latched : Int
  fresh : Bool
  acked : Bool
  vs : List UInt8
abbrev EndS.val (e : EndS) : Value := .slice e.va e.vs.length e.vc
abbrev EndS.cells (e : EndS) : List Value := [.int .i64 e.watch, .int .u32 (e.sess : Int), .int .u32 (e.num : Int), .bool e.some_, e.val, .int .u32 (e.in_ : Int), .int .i64 e.since, .int .i64 e.latched, .bool e.fresh, .bool e.acked]
def EndS.own (e : EndS) : HProp := sown 5 1 e.val e.vs.length (bv e.vs)
/-- What a fact says. -/
structure FactS where
  kind : Int
  conn : Int
  side : Int
  sess : Nat
  num : Nat
  on : Bool
  code : Int
  data : List UInt8
abbrev FactS.cells (f : FactS) (v : Value) : List Value := [.int .i64 f.kind, .int .i64 f.conn, .int .i64 f.side, .int .u32 (f.sess : Int), .int .u32 (f.num : Int), .bool f.on, .int .i64 f.code, v]
def EndS.tickS (e : EndS) (n : Int) : Int := if IntKind.i64.wrap (e.since + n) < e.watch then IntKind.i64.wrap (e.since + n) else e.watch
def EndS.tick (e : EndS) (n : Int) : EndS := { e with since := e.tickS n, fresh := if e.watch ≤ e.tickS n then false else e.fresh }
def EndS.anew (e : EndS) (side : Int) : EndS := if side = 2 then ⟨e.watch, e.sess, e.num, e.some_, none, 0, 0, 0, 0, false, false, []⟩ else ⟨e.watch, 0, 0, false, none, 0, 0, 0, 0, false, false, []⟩
def EndS.bad4 (e : EndS) (f : FactS) (ses : Nat) : Prop := f.on = true ∧ (e.vs ≠ f.data ∨ e.vs.length = 0 ∨ f.side = 2 ∧ e.in_ ≠ ses)
def EndS.bad5 (f : FactS) : Prop := f.on = false ∧ f.data.any (fun c => decide (c ≠ 0)) = true
def EndS.bad6 (e : EndS) (f : FactS) : Prop := f.on = true ∧ (f.code ≠ 0 ∨ e.watch ≤ e.since)
def EndS.bad7 (e : EndS) (f : FactS) : Prop := e.watch ≤ e.since ∧ f.code = 0
def EndS.bad8 (e : EndS) (f : FactS) : Prop := e.latched ≠ 0 ∧ f.code = 0 ∧ e.acked = false
instance (e : EndS) (f : FactS) (ses : Nat) : Decidable (e.bad4 f ses) := by unfold EndS.bad4; infer_instance
instance (f : FactS) : Decidable (EndS.bad5 f) := by unfold EndS.bad5; infer_instance
instance (e : EndS) (f : FactS) : Decidable (e.bad6 f) := by unfold EndS.bad6; infer_instance
instance (e : EndS) (f : FactS) : Decidable (e.bad7 f) := by unfold EndS.bad7; infer_instance
instance (e : EndS) (f : FactS) : Decidable (e.bad8 f) := by unfold EndS.bad8; infer_instance
def EndS.outE (e : EndS) (f : FactS) : EndS := { e with fresh := if f.code ≠ e.latched then false else e.fresh, latched := f.code, acked := false }
def EndS.out (e : EndS) (f : FactS) (ses : Nat) : Int × EndS :=
  if e.bad4 f ses then (4, e) else if EndS.bad5 f then (5, e) else if e.bad6 f then (6, e) else if e.bad7 f then (7, e) else if e.bad8 f then (8, e) else (0, e.outE f)

theorem tick_t {bl T : Nat} {pre post : List Value} (e : EndS) (n : Int) : Tri Try.prog 22 #[.pointer (some ⟨bl, pre.length, none⟩), .int .i64 n] [blk bl T (pre ++ (e.cells ++ post))] (isR (.tuple #[]) [blk bl T (pre ++ ((e.tick n).cells ++ post))]) := by
  refine tri_of Try.call22 Try.func22 rfl fun B F => ?_
  refine gc_seq ?_
  refine gc_draw (D := []) (fin := some 14) (plan := [(true, 0), (true, 1), (true, 2), (true, 3), (true, 4), (true, 5), (true, 6), (true, 7), (true, 8), (true, 9), (true, 10), (true, 11), (true, 12), (true, 13), (false, 14)]) rfl (by kernel_rfl) (by kernel_rfl) rfl .nil ?_
  refine gp_ev rfl (e_mv) ?_
  refine gp_ev rfl (e_mv) ?_
  refine gp_ev rfl (e_nc rfl) ?_
  refine gp_ev rfl (e_fa Try.underlying61 rfl rfl Try.sizeOf3) ?_
  refine gp_ev rfl (e_ldm 0 Try.underlying3 rfl (by repeat ((conv => arg 2; whnf); first | with_reducible exact .here | ((with_reducible refine Del.hereC ?_); rfl) | ((with_reducible refine Del.hereS ?_ ?_ ?_) <;> rfl) | exact .here | apply Del.there)) rfl) ?_
  refine gp_ev rfl (e_mv) ?_
  refine gp_ev rfl (e_nc rfl) ?_
  refine gp_ev rfl (e_fa Try.underlying61 rfl rfl Try.sizeOf3) ?_
  refine gp_ev rfl (e_ldm 6 Try.underlying3 rfl (by repeat ((conv => arg 2; whnf); first | with_reducible exact .here | ((with_reducible refine Del.hereC ?_); rfl) | ((with_reducible refine Del.hereS ?_ ?_ ?_) <;> rfl) | exact .here | apply Del.there)) rfl) ?_
  refine gp_ev rfl (e_mv) ?_
  refine gp_ev rfl (e_addw rfl rfl) ?_
  refine gp_ev rfl (e_min rfl rfl) ?_
  refine gp_ev rfl (e_nc rfl) ?_
  refine gp_ev rfl (e_fa Try.underlying61 rfl rfl Try.sizeOf3) ?_
  refine gp_fin rfl (s_stm 6 Try.sizeOf3 rfl (by repeat ((conv => arg 3; whnf); first | with_reducible exact .here | apply Turn.there))) ?_
  rintro _ _ ⟨rfl, rfl⟩
  refine gp_nil0 ?_
  refine gc_seq ?_
  refine gc_draw (D := []) (fin := none) (plan := [(true, 0), (true, 1), (true, 2), (true, 3), (true, 4), (true, 5), (true, 6), (true, 7), (true, 8)]) rfl (by kernel_rfl) (by kernel_rfl) rfl .nil ?_
  refine gp_ev rfl (e_mv) ?_
  refine gp_ev rfl (e_nc rfl) ?_
  refine gp_ev rfl (e_fa Try.underlying61 rfl rfl Try.sizeOf3) ?_
  refine gp_ev rfl (e_ldm 6 Try.underlying3 rfl (by repeat ((conv => arg 2; whnf); first | with_reducible exact .here | ((with_reducible refine Del.hereC ?_); rfl) | ((with_reducible refine Del.hereS ?_ ?_ ?_) <;> rfl) | exact .here | apply Del.there)) rfl) ?_
  refine gp_ev rfl (e_mv) ?_
  refine gp_ev rfl (e_nc rfl) ?_
  refine gp_ev rfl (e_fa Try.underlying61 rfl rfl Try.sizeOf3) ?_
  refine gp_ev rfl (e_ldm 0 Try.underlying3 rfl (by repeat ((conv => arg 2; whnf); first | with_reducible exact .here | ((with_reducible refine Del.hereC ?_); rfl) | ((with_reducible refine Del.hereS ?_ ?_ ?_) <;> rfl) | exact .here | apply Del.there)) rfl) ?_
  refine gp_ev rfl (e_ge rfl rfl) ?_
  refine gp_nil ?_
  first | refine gc_dec rfl (fun c26 => ?_) (fun c26 => ?_) | refine gc_ndec rfl (fun c26 => ?_) (fun c26 => ?_) | refine gc_cond rfl (fun c26 => ?_) (fun c26 => ?_)
  · skip
    refine gc_region ?_
    refine g_ev (e_mv) ?_
    refine g_ev (e_nc rfl) ?_
    refine g_ev (e_fa Try.underlying61 rfl rfl Try.sizeOf4) ?_
    refine g_eff (s_stm 8 Try.sizeOf4 rfl (by repeat ((conv => arg 3; whnf); first | with_reducible exact .here | apply Turn.there))) ?_
    rintro _ _ ⟨rfl, rfl⟩
    refine g_nil ?_
    exact end0 (L1 := [blk bl T (pre ++ (({ e with since := e.tickS n, fresh := false } : EndS).cells ++ post))]) rfl ⟨rfl, by unfold EndS.tick; rw [if_pos (show e.watch ≤ e.tickS n from c26)]⟩ (fun _ h => h.fin (by repeat ((conv => arg 1; whnf); (conv => arg 2; whnf); first | with_reducible exact .done | exact Fin.all _ | refine .cons (by repeat ((conv => arg 2; whnf); first | with_reducible exact .here | ((with_reducible refine Del.hereC ?_); rfl) | ((with_reducible refine Del.hereS ?_ ?_ ?_) <;> rfl) | exact .here | apply Del.there)) ?_ | refine .drop ?_)))
  · skip
    refine gc_skip ?_
    exact end0 (L1 := [blk bl T (pre ++ (({ e with since := e.tickS n } : EndS).cells ++ post))]) rfl ⟨rfl, by unfold EndS.tick; rw [if_neg (show ¬ e.watch ≤ e.tickS n from c26)]⟩ (fun _ h => h.fin (by repeat ((conv => arg 1; whnf); (conv => arg 2; whnf); first | with_reducible exact .done | exact Fin.all _ | refine .cons (by repeat ((conv => arg 2; whnf); first | with_reducible exact .here | ((with_reducible refine Del.hereC ?_); rfl) | ((with_reducible refine Del.hereS ?_ ?_ ?_) <;> rfl) | exact .here | apply Del.there)) ?_ | refine .drop ?_)))

theorem anew_t {bl T : Nat} {pre post : List Value} (e : EndS) (side : Int) : Tri Try.prog 23 #[.pointer (some ⟨bl, pre.length, none⟩), .int .i64 side] [blk bl T (pre ++ (e.cells ++ post))] (isR (.agg ⟨(e.anew side).cells⟩) [blk bl T (pre ++ (e.cells ++ post))]) := by
  refine tri_of Try.call23 Try.func23 rfl fun B F => ?_
  refine gc_seq ?_
  refine gc_region ?_
  refine g_eff (s_al Try.zeroValue61) ?_
  rintro _ _ ⟨b4, rfl, rfl⟩
  refine g_nil ?_
  refine gc_seq ?_
  refine gc_region ?_
  refine g_ev (e_mv) ?_
  refine g_ev (e_nc rfl) ?_
  refine g_ev (e_fa Try.underlying61 rfl rfl Try.sizeOf3) ?_
  refine g_ev (e_ldm 0 Try.underlying3 rfl (by repeat ((conv => arg 2; whnf); first | with_reducible exact .here | ((with_reducible refine Del.hereC ?_); rfl) | ((with_reducible refine Del.hereS ?_ ?_ ?_) <;> rfl) | exact .here | apply Del.there)) rfl) ?_
  refine g_ev ((e_bd Try.underlying61 Try.zeroValue61 pl61 rfl).to (v' := .agg ⟨[.int .i64 e.watch, .int .u32 0, .int .u32 0, .bool false, .slice none 0 0, .int .u32 0, .int .i64 0, .int .i64 0, .bool false, .bool false]⟩) rfl) ?_
  refine g_eff (s_al Try.zeroValue61) ?_
  rintro _ _ ⟨b5, rfl, rfl⟩
  refine g_eff (s_stA Try.sizeOf61 rfl rfl (by repeat ((conv => arg 3; whnf); first | with_reducible exact .here | apply Turn.there))) ?_
  rintro _ _ ⟨rfl, rfl⟩
  refine g_nil ?_
  refine gc_seq ?_
  refine gc_seq ?_
  refine gc_region ?_
  refine g_ev (e_mv) ?_
  refine g_ev (e_eq rfl rfl) ?_
  refine g_nil ?_
  first | refine gc_dec rfl (fun c12 => ?_) (fun c12 => ?_) | refine gc_ndec rfl (fun c12 => ?_) (fun c12 => ?_) | refine gc_cond rfl (fun c12 => ?_) (fun c12 => ?_)
  · skip
    refine gc_draw (D := [blk b5 61 [.int .i64 e.watch, .int .u32 0, .int .u32 0, .bool false, .slice none 0 0, .int .u32 0, .int .i64 0, .int .i64 0, .bool false, .bool false]]) (fin := none) (plan := [(true, 0), (true, 1), (true, 2), (true, 3), (true, 4), (true, 5), (true, 6), (true, 7), (true, 8), (true, 9), (true, 10), (true, 11), (true, 12), (false, 13), (true, 14), (false, 15), (true, 16), (false, 17)]) rfl (by kernel_rfl) (by kernel_rfl) rfl (.cons (by repeat ((conv => arg 2; whnf); first | with_reducible exact .here | ((with_reducible refine Del.hereC ?_); rfl) | ((with_reducible refine Del.hereS ?_ ?_ ?_) <;> rfl) | exact .here | apply Del.there)) .nil) ?_
    refine gp_ev rfl (e_mv) ?_
    refine gp_ev rfl (e_nc rfl) ?_
    refine gp_ev rfl (e_fa Try.underlying61 rfl rfl Try.sizeOf23) ?_
    refine gp_ev rfl (e_ldm 1 Try.underlying23 rfl (by repeat ((conv => arg 2; whnf); first | with_reducible exact .here | ((with_reducible refine Del.hereC ?_); rfl) | ((with_reducible refine Del.hereS ?_ ?_ ?_) <;> rfl) | exact .here | apply Del.there)) rfl) ?_
    refine gp_ev rfl (e_mv) ?_
    refine gp_ev rfl (e_nc rfl) ?_
    refine gp_ev rfl (e_fa Try.underlying61 rfl rfl Try.sizeOf23) ?_
    refine gp_ev rfl (e_ldm 2 Try.underlying23 rfl (by repeat ((conv => arg 2; whnf); first | with_reducible exact .here | ((with_reducible refine Del.hereC ?_); rfl) | ((with_reducible refine Del.hereS ?_ ?_ ?_) <;> rfl) | exact .here | apply Del.there)) rfl) ?_
    refine gp_ev rfl (e_mv) ?_
    refine gp_ev rfl (e_nc rfl) ?_
    refine gp_ev rfl (e_fa Try.underlying61 rfl rfl Try.sizeOf4) ?_
    refine gp_ev rfl (e_ldm 3 Try.underlying4 rfl (by repeat ((conv => arg 2; whnf); first | with_reducible exact .here | ((with_reducible refine Del.hereC ?_); rfl) | ((with_reducible refine Del.hereS ?_ ?_ ?_) <;> rfl) | exact .here | apply Del.there)) rfl) ?_
    refine gp_ev rfl (e_fa Try.underlying61 rfl rfl Try.sizeOf23) ?_
    refine gp_eff rfl (s_st Try.sizeOf23 rfl (by repeat ((conv => arg 3; whnf); first | with_reducible exact .here | apply Turn.there))) ?_
    rintro _ _ ⟨rfl, rfl⟩
    refine gp_ev rfl (e_fa Try.underlying61 rfl rfl Try.sizeOf23) ?_
    refine gp_eff rfl (s_st Try.sizeOf23 rfl (by repeat ((conv => arg 3; whnf); first | with_reducible exact .here | apply Turn.there))) ?_
    rintro _ _ ⟨rfl, rfl⟩
    refine gp_ev rfl (e_fa Try.underlying61 rfl rfl Try.sizeOf4) ?_
    refine gp_eff rfl (s_st Try.sizeOf4 rfl (by repeat ((conv => arg 3; whnf); first | with_reducible exact .here | apply Turn.there))) ?_
    rintro _ _ ⟨rfl, rfl⟩
    refine gp_nil ?_
    refine gc_seq ?_
    refine gc_region ?_
    refine g_ev (e_ldA Try.underlying61 rfl (by repeat ((conv => arg 2; whnf); first | with_reducible exact .here | ((with_reducible refine Del.hereC ?_); rfl) | ((with_reducible refine Del.hereS ?_ ?_ ?_) <;> rfl) | exact .here | apply Del.there)) Try.sizeOf61 (by first | exact Nat.le_of_ble_eq_true rfl | simp)) ?_
    refine g_eff (s_stA Try.sizeOf61 rfl rfl (by repeat ((conv => arg 3; whnf); first | with_reducible exact .here | apply Turn.there))) ?_
    rintro _ _ ⟨rfl, rfl⟩
    refine g_nil ?_
    refine gc_ret ?_
    exact retc (L1 := [blk bl T (pre ++ (e.cells ++ post))]) rfl (by (conv => lhs; whnf)) Try.underlying61 (by repeat ((conv => arg 2; whnf); first | with_reducible exact .here | ((with_reducible refine Del.hereC ?_); rfl) | ((with_reducible refine Del.hereS ?_ ?_ ?_) <;> rfl) | exact .here | apply Del.there)) Try.sizeOf61 rfl rfl ⟨by unfold EndS.anew; rw [if_pos c12]; rfl, rfl⟩ (fun _ h => h.fin (by repeat ((conv => arg 1; whnf); (conv => arg 2; whnf); first | with_reducible exact .done | exact Fin.all _ | refine .cons (by repeat ((conv => arg 2; whnf); first | with_reducible exact .here | ((with_reducible refine Del.hereC ?_); rfl) | ((with_reducible refine Del.hereS ?_ ?_ ?_) <;> rfl) | exact .here | apply Del.there)) ?_ | refine .drop ?_)))
  · skip
    refine gc_skip ?_
    refine gc_seq ?_
    refine gc_region ?_
    refine g_ev (e_ldA Try.underlying61 rfl (by repeat ((conv => arg 2; whnf); first | with_reducible exact .here | ((with_reducible refine Del.hereC ?_); rfl) | ((with_reducible refine Del.hereS ?_ ?_ ?_) <;> rfl) | exact .here | apply Del.there)) Try.sizeOf61 (by first | exact Nat.le_of_ble_eq_true rfl | simp)) ?_
    refine g_eff (s_stA Try.sizeOf61 rfl rfl (by repeat ((conv => arg 3; whnf); first | with_reducible exact .here | apply Turn.there))) ?_
    rintro _ _ ⟨rfl, rfl⟩
    refine g_nil ?_
    refine gc_ret ?_
    exact retc (L1 := [blk bl T (pre ++ (e.cells ++ post))]) rfl (by (conv => lhs; whnf)) Try.underlying61 (by repeat ((conv => arg 2; whnf); first | with_reducible exact .here | ((with_reducible refine Del.hereC ?_); rfl) | ((with_reducible refine Del.hereS ?_ ?_ ?_) <;> rfl) | exact .here | apply Del.there)) Try.sizeOf61 rfl rfl ⟨by unfold EndS.anew; rw [if_neg c12]; rfl, rfl⟩ (fun _ h => h.fin (by repeat ((conv => arg 1; whnf); (conv => arg 2; whnf); first | with_reducible exact .done | exact Fin.all _ | refine .cons (by repeat ((conv => arg 2; whnf); first | with_reducible exact .here | ((with_reducible refine Del.hereC ?_); rfl) | ((with_reducible refine Del.hereS ?_ ?_ ?_) <;> rfl) | exact .here | apply Del.there)) ?_ | refine .drop ?_)))


theorem info5 : Try.prog.info? 5 = some Try.t5 := by kernel_rfl

theorem clone_t {a : Option Addr} {c : Nat} {xs : List UInt8} {A : HProp} (hr : ∀ B w, Sat B w [A] → Rds w 1 (.slice a xs.length c) xs.length (bv xs)) (hm : xs.length ≤ 140737488355328) : Tri Try.prog 28 #[.slice a xs.length c] [A] (fun v L => ∃ a2 c2, v = .slice a2 xs.length c2 ∧ L = [sown 5 1 (.slice a2 xs.length c2) xs.length (bv xs), A] ∧ a2.isNone = a.isNone) := by
  refine tri_of Try.call28 Try.func28 rfl fun B F => ?_
  refine gc_fact (φ := a = none → xs.length = 0 ∧ bv xs = []) (fun w h => (hr _ w (h.left (L1 := [A]))).nil_) fun hnn => ?_
  refine gc_seq ?_
  refine gc_region ?_
  refine g_ev (e_as) ?_
  refine g_nil ?_
  refine gc_seq ?_
  refine gc_seq ?_
  refine gc_region ?_
  refine g_ev (e_mv) ?_
  refine g_ev (e_eqn Try.underlying41 rfl rfl) ?_
  refine g_nil ?_
  first | refine gc_dec rfl (fun c4 => ?_) (fun c4 => ?_) | refine gc_ndec rfl (fun c4 => ?_) (fun c4 => ?_) | refine gc_cond rfl (fun c4 => ?_) (fun c4 => ?_)
  · skip
    refine gc_seq ?_
    refine gc_region ?_
    refine g_ev (e_as) ?_
    refine g_nil ?_
    refine gc_ret ?_
    have ha : a = none := by simpa using c4
    obtain ⟨h2, h3⟩ := hnn ha
    have hx0 : xs = [] := List.eq_nil_of_length_eq_zero h2
    subst ha; subst hx0
    exact (ret1 rfl (by (conv => lhs; whnf); try rfl) ⟨none, 0, rfl, rfl, rfl⟩ (fun _ h => h.fin (L1 := [sown 5 1 (.slice none 0 0) 0 [], A]) (F := F) (.fold nil_fold (.cons .here .done))))
  · skip
    refine gc_skip ?_
    refine gc_seq ?_
    refine gc_region ?_
    refine g_eff (s_bs0 Try.underlying41 Try.sizeOf5) ?_
    rintro _ _ ⟨b5, rfl, rfl⟩
    refine g_ev (e_mv) ?_
    refine g_eff (s_ap0 (bytes := 1) Try.underlying41 info5 rfl rfl rfl rfl (by decide) rfl rfl .here (fun B w h => hr B w (h.tail.left (L1 := [A]))) (bv_one xs) (by omega) (by unfold maxLen; omega)) ?_
    rintro _ _ ⟨a2, c2, rfl, rfl, hnil⟩
    refine g_ev (e_as) ?_
    refine g_nil ?_
    refine gc_ret ?_
    have ha : a.isNone = false := by simpa using c4
    exact (ret1 rfl (by (conv => lhs; whnf); try rfl) ⟨a2, c2, rfl, rfl, by rw [hnil, ha]⟩ (fun _ h => h))


theorem nz_eq (c : UInt8) : (!decide ((c.toNat : Int) = 0)) = decide (c ≠ 0) := by
  by_cases e : c = 0
  · subst e; rfl
  · have : ¬ (c.toNat : Int) = 0 := fun h => e (UInt8.toNat_inj.1 (by simpa using h))
    rw [decide_eq_false this, decide_eq_true e]; rfl

theorem nz_t (c : UInt8) : Tri Try.prog 31 #[.int .u8 (c.toNat : Int)] [] (isR (.bool (decide (c ≠ 0))) []) := by
  refine tri_of Try.call31 Try.func31 rfl fun B F => ?_
  refine gc_seq ?_
  refine gc_region ?_
  refine g_ev (e_as) ?_
  refine g_nil ?_
  refine gc_seq ?_
  refine gc_region ?_
  refine g_ev (e_mv) ?_
  refine g_ev (e_ne rfl rfl) ?_
  refine g_ev (e_as) ?_
  refine g_nil ?_
  refine gc_ret ?_
  exact ret1 (v := .bool (decide (c ≠ 0))) (L1 := []) rfl (by (conv => lhs; whnf); exact congrArg Value.bool (nz_eq c)) ⟨rfl, rfl⟩ (fun _ h => h.fin (by repeat ((conv => arg 1; whnf); (conv => arg 2; whnf); first | with_reducible exact .done | exact Fin.all _ | refine .cons (by repeat ((conv => arg 2; whnf); first | with_reducible exact .here | ((with_reducible refine Del.hereC ?_); rfl) | ((with_reducible refine Del.hereS ?_ ?_ ?_) <;> rfl) | exact .here | apply Del.there)) ?_ | refine .drop ?_)))

theorem equal_t {a1 a2 : Option Addr} {c1 c2 : Nat} {xs ys : List UInt8} {A1 A2 : HProp} (h1 : ∀ B w, Sat B w [A1] → Rds w 1 (.slice a1 xs.length c1) xs.length (bv xs)) (h2 : ∀ B w, Sat B w [A2] → Rds w 1 (.slice a2 ys.length c2) ys.length (bv ys)) (hm : xs.length ≤ 9223372036854775807) : Tri Try.prog 29 #[.slice a1 xs.length c1, .slice a2 ys.length c2] [A1, A2] (isR (.bool (decide (xs = ys))) [A1, A2]) := by
  refine tri_of Try.call29 Try.func29 rfl fun B F => ?_
  refine gc_seq ?_
  refine gc_region ?_
  refine g_ev (e_as) ?_
  refine g_nil ?_
  refine gc_seq ?_
  refine gc_seq ?_
  refine gc_region ?_
  refine g_ev (e_mv) ?_
  refine g_ev (e_len Try.underlying41 rfl) ?_
  refine g_ev (e_mv) ?_
  refine g_ev (e_len Try.underlying41 rfl) ?_
  refine g_ev (e_ne rfl rfl) ?_
  refine g_nil ?_
  first | refine gc_dec rfl (fun c10 => ?_) (fun c10 => ?_) | refine gc_ndec rfl (fun c10 => ?_) (fun c10 => ?_) | refine gc_cond rfl (fun c10 => ?_) (fun c10 => ?_)
  · skip
    refine gc_seq ?_
    refine gc_region ?_
    refine g_ev (e_as) ?_
    refine g_nil ?_
    refine gc_ret ?_
    have hne : ¬ xs = ys := fun e => c10 (by rw [e])
    exact ret1 (v := .bool (decide (xs = ys))) (L1 := [A1, A2]) rfl (by (conv => lhs; whnf); refine congrArg Value.bool ?_; exact Eq.symm (by simp [hne])) ⟨rfl, rfl⟩ (fun _ h => h)
  · skip
    refine gc_skip ?_
    refine gc_seq ?_
    refine gc_seq ?_
    refine gc_region ?_
    refine g_ev (e_mv) ?_
    refine g_ev (e_len Try.underlying41 rfl) ?_
    refine g_ev (e_mv) ?_
    refine g_nil ?_
    refine gc_block ?_
    refine gc_loop (α := Nat) (fun i E L => i ≤ xs.length ∧ xs.take i = ys.take i ∧ E 0 = .slice a1 xs.length c1 ∧ E 1 = .slice a2 ys.length c2 ∧ E 12 = .int .i64 (xs.length : Int) ∧ E 13 = .int .i64 (i : Int) ∧ L = A1 :: A2 :: F) (fun i => xs.length - i) 0 ?_ ?_
    · exact ⟨Nat.zero_le _, rfl, (by (conv => lhs; whnf); try rfl), (by (conv => lhs; whnf); try rfl), (by (conv => lhs; whnf); try rfl), (by (conv => lhs; whnf); try rfl), rfl⟩
    · rintro i E L ⟨hi, ht, s0, s1, s12, s13, hL⟩
      subst hL
      refine gc_slot 0 _ ?_ s0
      refine gc_slot 1 _ ?_ s1
      refine gc_slot 12 _ ?_ s12
      refine gc_slot 13 _ ?_ s13
      clear s0 s1 s12 s13
      refine gc_seq ?_
      refine gc_region ?_
      refine g_ev (e_lt rfl rfl) ?_
      refine g_nil ?_
      refine gc_seq ?_
      first | refine gc_dec rfl (fun c14 => ?_) (fun c14 => ?_) | refine gc_ndec rfl (fun c14 => ?_) (fun c14 => ?_) | refine gc_cond rfl (fun c14 => ?_) (fun c14 => ?_)
      · skip
        refine gc_skip ?_
        refine gc_seq ?_
        refine gc_block ?_
        refine gc_seq ?_
        refine gc_region ?_
        refine g_ev (e_mv) ?_
        refine g_ev (e_as) ?_
        refine g_nil ?_
        refine gc_seq ?_
        obtain ⟨x, hx⟩ : ∃ x, xs[i]? = some x := ⟨_, List.getElem?_eq_getElem (by omega)⟩
        obtain ⟨y, hy⟩ : ∃ y, ys[i]? = some y := ⟨_, List.getElem?_eq_getElem (by omega)⟩
        refine gc_fact (φ := ∃ ad, a1 = some ad) (fun w h => (h1 _ w (h.left (L1 := [A1]))).some_ (by omega)) fun ⟨p1, e1⟩ => ?_
        refine gc_fact (φ := ∃ ad, a2 = some ad) (fun w h => (h2 _ w (h.tail.left (L1 := [A2]))).some_ (by omega)) fun ⟨p2, e2⟩ => ?_
        subst e1; subst e2
        refine gc_draw (D := []) (fin := none) (plan := [(true, 0), (true, 1), (true, 2), (true, 3), (true, 4), (true, 5), (true, 6), (true, 7), (true, 8)]) rfl (by kernel_rfl) (by kernel_rfl) rfl .nil ?_
        refine gp_ev rfl (e_mv) ?_
        refine gp_ev rfl (e_mv) ?_
        refine gp_ev rfl (e_iaA (q := i) Try.underlying41 Try.sizeOf5 rfl rfl rfl (by omega)) ?_
        refine gp_ev rfl (e_ldc (v := .int .u8 (x.toNat : Int)) Try.underlying5 rfl (fun B w h => (h1 _ w (h.left (L1 := [A1]))).cell hx)) ?_
        refine gp_ev rfl (e_mv) ?_
        refine gp_ev rfl (e_mv) ?_
        refine gp_ev rfl (e_iaA (q := i) Try.underlying41 Try.sizeOf5 rfl rfl rfl (by omega)) ?_
        refine gp_ev rfl (e_ldc (v := .int .u8 (y.toNat : Int)) Try.underlying5 rfl (fun B w h => (h2 _ w (h.tail.left (L1 := [A2]))).cell hy)) ?_
        refine gp_ev rfl (e_ne rfl rfl) ?_
        refine gp_nil ?_
        first | refine gc_dec rfl (fun c24 => ?_) (fun c24 => ?_) | refine gc_ndec rfl (fun c24 => ?_) (fun c24 => ?_) | refine gc_cond rfl (fun c24 => ?_) (fun c24 => ?_)
        · skip
          refine gc_seq ?_
          refine gc_region ?_
          refine g_ev (e_as) ?_
          refine g_nil ?_
          refine gc_ret ?_
          have hne : ¬ xs = ys := fun e => by rw [e] at hx; rw [hx] at hy; cases hy; exact c24 rfl
          exact ret1 (v := .bool (decide (xs = ys))) (L1 := [A1, A2]) rfl (by (conv => lhs; whnf); refine congrArg Value.bool ?_; exact Eq.symm (by simp [hne])) ⟨rfl, rfl⟩ (fun _ h => h)
        · skip
          refine gc_skip ?_
          refine gc_region ?_
          have hxy : x = y := UInt8.toNat_inj.1 (by omega)
          refine g_ev ((e_addw rfl rfl).to (v' := .int .i64 ((i + 1 : Nat) : Int)) (congrArg _ (wrapN (by omega) (by omega)))) ?_
          refine g_ev (e_mv) ?_
          refine g_nil ?_
          refine Exists.intro (i + 1) (And.intro ⟨(by omega), (by rw [List.take_add_one, List.take_add_one, ht, hx, hy, hxy]), (by (conv => lhs; whnf); try rfl), (by (conv => lhs; whnf); try rfl), (by (conv => lhs; whnf); try rfl), (by (conv => lhs; whnf); try rfl), rfl⟩ (by omega))
      · skip
        refine gc_exit ?_
        refine gc_seq ?_
        refine gc_region ?_
        refine g_ev (e_as) ?_
        refine g_nil ?_
        refine gc_ret ?_
        have he : xs = ys := by rw [← List.take_of_length_le (show xs.length ≤ i by omega), ht, List.take_of_length_le (by omega)]
        exact ret1 (v := .bool (decide (xs = ys))) (L1 := [A1, A2]) rfl (by (conv => lhs; whnf); refine congrArg Value.bool ?_; exact Eq.symm (by simp [he])) ⟨rfl, rfl⟩ (fun _ h => h)

theorem index_t {a : Option Addr} {c : Nat} {xs : List UInt8} {A : HProp} (h1 : ∀ B w, Sat B w [A] → Rds w 1 (.slice a xs.length c) xs.length (bv xs)) (hm : xs.length ≤ 140737488355328) : Tri Try.prog 32 #[.slice a xs.length c, .func (.func 31) #[] #[]] [A] (fun v L => ∃ r : Int, v = .int .i64 r ∧ L = [A] ∧ decide (0 ≤ r) = xs.any (fun c => decide (c ≠ 0))) := by
  refine tri_of Try.call32 Try.func32 rfl fun B F => ?_
  refine gc_seq ?_
  refine gc_region ?_
  refine g_ev (e_as) ?_
  refine g_nil ?_
  refine gc_seq ?_
  refine gc_seq ?_
  refine gc_region ?_
  refine g_ev (e_mv) ?_
  refine g_ev (e_len Try.underlying41 rfl) ?_
  refine g_ev (e_mv) ?_
  refine g_nil ?_
  refine gc_block ?_
  refine gc_loop (α := Nat) (fun i E L => i ≤ xs.length ∧ (xs.take i).any (fun c => decide (c ≠ 0)) = false ∧ E 0 = .slice a xs.length c ∧ E 1 = .func (.func 31) #[] #[] ∧ E 7 = .int .i64 (xs.length : Int) ∧ E 8 = .int .i64 (i : Int) ∧ L = A :: F) (fun i => xs.length - i) 0 ?_ ?_
  · exact ⟨Nat.zero_le _, rfl, (by (conv => lhs; whnf); try rfl), (by (conv => lhs; whnf); try rfl), (by (conv => lhs; whnf); try rfl), (by (conv => lhs; whnf); try rfl), rfl⟩
  · rintro i E L ⟨hi, ht, s0, s1, s7, s8, hL⟩
    subst hL
    refine gc_slot 0 _ ?_ s0
    refine gc_slot 1 _ ?_ s1
    refine gc_slot 7 _ ?_ s7
    refine gc_slot 8 _ ?_ s8
    clear s0 s1 s7 s8
    refine gc_seq ?_
    refine gc_region ?_
    refine g_ev (e_lt rfl rfl) ?_
    refine g_nil ?_
    refine gc_seq ?_
    first | refine gc_dec rfl (fun c9 => ?_) (fun c9 => ?_) | refine gc_ndec rfl (fun c9 => ?_) (fun c9 => ?_) | refine gc_cond rfl (fun c9 => ?_) (fun c9 => ?_)
    · skip
      refine gc_skip ?_
      refine gc_seq ?_
      refine gc_block ?_
      refine gc_seq ?_
      refine gc_region ?_
      refine g_ev (e_mv) ?_
      refine g_ev (e_as) ?_
      refine g_nil ?_
      refine gc_seq ?_
      refine gc_region ?_
      obtain ⟨x, hx⟩ : ∃ x, xs[i]? = some x := ⟨_, List.getElem?_eq_getElem (by omega)⟩
      refine g_fact (φ := ∃ ad, a = some ad) (fun w h => (h1 _ w (h.left (L1 := [A]))).some_ (by omega)) fun ⟨p1, e1⟩ => ?_
      subst e1
      refine g_ev (e_mv) ?_
      refine g_ev (e_mv) ?_
      refine g_ev (e_mv) ?_
      refine g_ev (e_iaA (q := i) Try.underlying41 Try.sizeOf5 rfl rfl rfl (by omega)) ?_
      refine g_ev (e_ldc (v := .int .u8 (x.toNat : Int)) Try.underlying5 rfl (fun B w h => (h1 _ w (h.left (L1 := [A]))).cell hx)) ?_
      refine g_eff (s_callv (nz_t x) .nil rfl) ?_
      rintro _ _ ⟨_, ⟨rfl, rfl⟩, rfl⟩
      refine g_nil ?_
      first | refine gc_dec rfl (fun c16 => ?_) (fun c16 => ?_) | refine gc_ndec rfl (fun c16 => ?_) (fun c16 => ?_) | refine gc_cond rfl (fun c16 => ?_) (fun c16 => ?_)
      · skip
        refine gc_seq ?_
        refine gc_region ?_
        refine g_ev (e_mv) ?_
        refine g_ev (e_as) ?_
        refine g_nil ?_
        refine gc_ret ?_
        exact ret1 (v := .int .i64 (i : Int)) (L1 := [A]) rfl (by (conv => lhs; whnf); try rfl) ⟨_, rfl, rfl, (by rw [decide_eq_true (by omega)]; exact (List.any_eq_true.2 ⟨x, List.mem_of_getElem? hx, by simpa using c16⟩).symm)⟩ (fun _ h => h)
      · skip
        refine gc_skip ?_
        refine gc_region ?_
        refine g_ev ((e_addw rfl rfl).to (v' := .int .i64 ((i + 1 : Nat) : Int)) (congrArg _ (wrapN (by omega) (by omega)))) ?_
        refine g_ev (e_mv) ?_
        refine g_nil ?_
        refine Exists.intro (i + 1) (And.intro ⟨(by omega), (by rw [List.take_add_one, hx, List.any_append, ht]; simpa using c16), (by (conv => lhs; whnf); try rfl), (by (conv => lhs; whnf); try rfl), (by (conv => lhs; whnf); try rfl), (by (conv => lhs; whnf); try rfl), rfl⟩ (by omega))
    · skip
      refine gc_exit ?_
      refine gc_seq ?_
      refine gc_region ?_
      refine g_ev (e_as) ?_
      refine g_nil ?_
      refine gc_ret ?_
      have he : xs.any (fun c => decide (c ≠ 0)) = false := by rw [← ht, List.take_of_length_le (by omega)]
      exact ret1 (v := .int .i64 (-1)) (L1 := [A]) rfl (by (conv => lhs; whnf); try rfl) ⟨_, rfl, rfl, (by rw [he]; rfl)⟩ (fun _ h => h)

theorem contains_t {a : Option Addr} {c : Nat} {xs : List UInt8} {A : HProp} (h1 : ∀ B w, Sat B w [A] → Rds w 1 (.slice a xs.length c) xs.length (bv xs)) (hm : xs.length ≤ 140737488355328) : Tri Try.prog 30 #[.slice a xs.length c, .func (.func 31) #[] #[]] [A] (isR (.bool (xs.any (fun c => decide (c ≠ 0)))) [A]) := by
  refine tri_of Try.call30 Try.func30 rfl fun B F => ?_
  refine gc_seq ?_
  refine gc_region ?_
  refine g_ev (e_as) ?_
  refine g_nil ?_
  refine gc_seq ?_
  refine gc_region ?_
  refine g_ev (e_mv) ?_
  refine g_ev (e_mv) ?_
  refine g_eff (s_call (index_t h1 hm) (.cons .here .nil)) ?_
  rintro _ _ ⟨_, ⟨r, rfl, rfl, hr⟩, rfl⟩
  refine g_ev (e_ge rfl rfl) ?_
  refine g_ev (e_as) ?_
  refine g_nil ?_
  refine gc_ret ?_
  exact ret1 (v := .bool (xs.any (fun c => decide (c ≠ 0)))) (L1 := [A]) rfl (by (conv => lhs; whnf); exact congrArg Value.bool hr) ⟨rfl, rfl⟩ (fun _ h => h)

theorem out_t {bl T : Nat} {pre post : List Value} (e : EndS) (f : FactS) (ses : Nat) {a : Option Addr} {c : Nat} {A : HProp} (hr : ∀ B w, Sat B w [A] → Rds w 1 (.slice a f.data.length c) f.data.length (bv f.data)) (hm : f.data.length ≤ 140737488355328) : Tri Try.prog 24 #[.pointer (some ⟨bl, pre.length, none⟩), .agg ⟨f.cells (.slice a f.data.length c)⟩, .int .u32 (ses : Int)] [blk bl T (pre ++ (e.cells ++ post)), e.own, A] (isR (.int .i64 (e.out f ses).1) [blk bl T (pre ++ ((e.out f ses).2.cells ++ post)), (e.out f ses).2.own, A]) := by
  refine tri_of Try.call24 Try.func24 rfl fun B F => ?_
  refine gc_fact (φ := e.vs.length ≤ 9223372036854775807) (fun w s => (by have := own_len s (.there .here); unfold maxLen at this; omega)) fun hv => ?_
  refine gc_seq ?_
  refine gc_region ?_
  refine g_eff (s_bx) ?_
  rintro _ _ ⟨b4, rfl, rfl⟩
  refine g_ev (e_as) ?_
  refine g_nil ?_
  refine gc_seq ?_
  refine gc_block ?_
  refine gc_seq ?_
  refine gc_cut (fun E L => E 0 = .pointer (some ⟨bl, pre.length, none⟩) ∧ E 2 = .int .u32 (ses : Int) ∧ E 4 = .pointer (some ⟨b4, 0, none⟩) ∧ E 7 = .bool (decide (e.bad4 f ses)) ∧ ∀ w, Sat B w L → Sat B w (blk bl T (pre ++ (e.cells ++ post)) :: e.own :: blk b4 43 (f.cells (.slice a f.data.length c)) :: A :: F)) ?_ ?_
  · skip
    refine gc_draw (D := [e.own, A]) (fin := none) (plan := [(true, 0), (true, 1), (true, 2), (true, 3), (true, 4), (true, 5), (true, 6), (true, 7), (true, 8), (false, 9), (true, 10), (true, 11), (true, 12), (true, 13), (true, 14), (true, 15), (true, 16), (true, 17), (true, 18), (true, 19), (true, 20), (true, 21), (true, 22), (true, 23), (true, 24), (true, 25), (true, 26), (true, 27), (true, 28), (true, 29), (true, 30), (true, 31), (true, 32), (true, 33)]) rfl (by kernel_rfl) (by kernel_rfl) rfl (.cons (by repeat ((conv => arg 2; whnf); first | with_reducible exact .here | ((with_reducible refine Del.hereC ?_); rfl) | ((with_reducible refine Del.hereS ?_ ?_ ?_) <;> rfl) | exact .here | apply Del.there)) (.cons (by repeat ((conv => arg 2; whnf); first | with_reducible exact .here | ((with_reducible refine Del.hereC ?_); rfl) | ((with_reducible refine Del.hereS ?_ ?_ ?_) <;> rfl) | exact .here | apply Del.there)) (.nil))) ?_
    refine gp_ev rfl (e_fa Try.underlying43 rfl rfl Try.sizeOf4) ?_
    refine gp_ev rfl (e_ld Try.underlying4 rfl (by repeat ((conv => arg 2; whnf); first | with_reducible exact .here | ((with_reducible refine Del.hereC ?_); rfl) | ((with_reducible refine Del.hereS ?_ ?_ ?_) <;> rfl) | exact .here | apply Del.there)) rfl) ?_
    refine gp_ev rfl (e_mv) ?_
    first | refine gp_dec 10 rfl (fun c10 => ?_) (fun c10 => ?_) | refine gp_ndec 10 rfl (fun c10 => ?_) (fun c10 => ?_) | refine gp_bool 10 rfl (fun c10 => ?_) (fun c10 => ?_)
    · skip
      refine gp_ev rfl (e_mv) ?_
      refine gp_ev rfl (e_nc rfl) ?_
      refine gp_ev rfl (e_fa Try.underlying61 rfl rfl Try.sizeOf41) ?_
      refine gp_ev rfl (e_ldm 4 Try.underlying41 rfl (by repeat ((conv => arg 2; whnf); first | with_reducible exact .here | ((with_reducible refine Del.hereC ?_); rfl) | ((with_reducible refine Del.hereS ?_ ?_ ?_) <;> rfl) | exact .here | apply Del.there)) rfl) ?_
      refine gp_ev rfl (e_fa Try.underlying43 rfl rfl Try.sizeOf41) ?_
      refine gp_ev rfl (e_ld Try.underlying41 rfl (by repeat ((conv => arg 2; whnf); first | with_reducible exact .here | ((with_reducible refine Del.hereC ?_); rfl) | ((with_reducible refine Del.hereS ?_ ?_ ?_) <;> rfl) | exact .here | apply Del.there)) rfl) ?_
      refine gp_eff rfl (s_call (equal_t (A1 := e.own) (A2 := A) (xs := e.vs) (ys := f.data) (fun B w h => h.rds .here) hr hv) (.cons .here (.cons .here .nil))) ?_
      rintro _ _ ⟨_, ⟨rfl, rfl⟩, rfl⟩
      refine gp_ev rfl (e_not' rfl) ?_
      refine gp_ev rfl (e_mv) ?_
      first | refine gp_dec 19 rfl (fun c19 => ?_) (fun c19 => ?_) | refine gp_ndec 19 rfl (fun c19 => ?_) (fun c19 => ?_) | refine gp_bool 19 rfl (fun c19 => ?_) (fun c19 => ?_)
      · skip
        refine gp_not rfl ?_
        refine gp_not rfl ?_
        refine gp_not rfl ?_
        refine gp_not rfl ?_
        refine gp_not rfl ?_
        refine gp_not rfl ?_
        refine gp_ev rfl (e_pk rfl) ?_
        refine gp_ev rfl (e_mv) ?_
        refine gp_not rfl ?_
        refine gp_not rfl ?_
        refine gp_not rfl ?_
        refine gp_not rfl ?_
        refine gp_not rfl ?_
        refine gp_not rfl ?_
        refine gp_not rfl ?_
        refine gp_not rfl ?_
        refine gp_not rfl ?_
        refine gp_not rfl ?_
        refine gp_not rfl ?_
        refine gp_ev rfl (e_pk rfl) ?_
        refine gp_ev rfl (e_pk rfl) ?_
        refine gp_ev rfl (e_as) ?_
        refine gp_nil ?_
        exact ⟨(by (conv => lhs; whnf); try first | rfl | (refine congrArg Value.bool ?_; simp_all) | simp_all), (by (conv => lhs; whnf); try first | rfl | (refine congrArg Value.bool ?_; simp_all) | simp_all), (by (conv => lhs; whnf); try first | rfl | (refine congrArg Value.bool ?_; simp_all) | simp_all), (by (conv => lhs; whnf); refine congrArg Value.bool ?_; rw [Bool.eq_iff_iff, decide_eq_true_iff]; clear hr; (first | unfold EndS.bad4 | unfold EndS.bad5 | unfold EndS.bad6 | unfold EndS.bad7 | unfold EndS.bad8); first | (simp_all; done) | (simp_all; omega) | (simp; omega) | (generalize (f.data.any fun c => decide (c ≠ 0)) = q; cases q <;> simp_all)), (fun _ h => h.fin (L1 := [blk bl T (pre ++ (e.cells ++ post)), e.own, blk b4 43 (f.cells (.slice a f.data.length c)), A]) (F := F) (by repeat ((conv => arg 1; whnf); (conv => arg 2; whnf); first | with_reducible exact .done | exact Fin.all _ | refine .cons (by repeat ((conv => arg 2; whnf); first | with_reducible exact .here | ((with_reducible refine Del.hereC ?_); rfl) | ((with_reducible refine Del.hereS ?_ ?_ ?_) <;> rfl) | exact .here | apply Del.there)) ?_ | refine .drop ?_)))⟩
      · skip
        refine gp_ev rfl (e_mv) ?_
        refine gp_ev rfl (e_nc rfl) ?_
        refine gp_ev rfl (e_fa Try.underlying61 rfl rfl Try.sizeOf41) ?_
        refine gp_ev rfl (e_ldm 4 Try.underlying41 rfl (by repeat ((conv => arg 2; whnf); first | with_reducible exact .here | ((with_reducible refine Del.hereC ?_); rfl) | ((with_reducible refine Del.hereS ?_ ?_ ?_) <;> rfl) | exact .here | apply Del.there)) rfl) ?_
        refine gp_ev rfl (e_len Try.underlying41 rfl) ?_
        refine gp_ev rfl (e_eq rfl rfl) ?_
        refine gp_ev rfl (e_pk rfl) ?_
        refine gp_ev rfl (e_mv) ?_
        first | refine gp_dec 27 rfl (fun c27 => ?_) (fun c27 => ?_) | refine gp_ndec 27 rfl (fun c27 => ?_) (fun c27 => ?_) | refine gp_bool 27 rfl (fun c27 => ?_) (fun c27 => ?_)
        · skip
          refine gp_not rfl ?_
          refine gp_not rfl ?_
          refine gp_not rfl ?_
          refine gp_not rfl ?_
          refine gp_not rfl ?_
          refine gp_not rfl ?_
          refine gp_not rfl ?_
          refine gp_not rfl ?_
          refine gp_not rfl ?_
          refine gp_not rfl ?_
          refine gp_not rfl ?_
          refine gp_ev rfl (e_pk rfl) ?_
          refine gp_ev rfl (e_pk rfl) ?_
          refine gp_ev rfl (e_as) ?_
          refine gp_nil ?_
          exact ⟨(by (conv => lhs; whnf); try first | rfl | (refine congrArg Value.bool ?_; simp_all) | simp_all), (by (conv => lhs; whnf); try first | rfl | (refine congrArg Value.bool ?_; simp_all) | simp_all), (by (conv => lhs; whnf); try first | rfl | (refine congrArg Value.bool ?_; simp_all) | simp_all), (by (conv => lhs; whnf); refine congrArg Value.bool ?_; rw [Bool.eq_iff_iff, decide_eq_true_iff]; clear hr; (first | unfold EndS.bad4 | unfold EndS.bad5 | unfold EndS.bad6 | unfold EndS.bad7 | unfold EndS.bad8); first | (simp_all; done) | (simp_all; omega) | (simp; omega) | (generalize (f.data.any fun c => decide (c ≠ 0)) = q; cases q <;> simp_all)), (fun _ h => h.fin (L1 := [blk bl T (pre ++ (e.cells ++ post)), e.own, blk b4 43 (f.cells (.slice a f.data.length c)), A]) (F := F) (by repeat ((conv => arg 1; whnf); (conv => arg 2; whnf); first | with_reducible exact .done | exact Fin.all _ | refine .cons (by repeat ((conv => arg 2; whnf); first | with_reducible exact .here | ((with_reducible refine Del.hereC ?_); rfl) | ((with_reducible refine Del.hereS ?_ ?_ ?_) <;> rfl) | exact .here | apply Del.there)) ?_ | refine .drop ?_)))⟩
        · skip
          refine gp_ev rfl (e_fa Try.underlying43 rfl rfl Try.sizeOf39) ?_
          refine gp_ev rfl (e_ld Try.underlying39 rfl (by repeat ((conv => arg 2; whnf); first | with_reducible exact .here | ((with_reducible refine Del.hereC ?_); rfl) | ((with_reducible refine Del.hereS ?_ ?_ ?_) <;> rfl) | exact .here | apply Del.there)) rfl) ?_
          refine gp_ev rfl (e_eq rfl rfl) ?_
          refine gp_ev rfl (e_mv) ?_
          first | refine gp_dec 31 rfl (fun c31 => ?_) (fun c31 => ?_) | refine gp_ndec 31 rfl (fun c31 => ?_) (fun c31 => ?_) | refine gp_bool 31 rfl (fun c31 => ?_) (fun c31 => ?_)
          · skip
            refine gp_ev rfl (e_mv) ?_
            refine gp_ev rfl (e_nc rfl) ?_
            refine gp_ev rfl (e_fa Try.underlying61 rfl rfl Try.sizeOf23) ?_
            refine gp_ev rfl (e_ldm 5 Try.underlying23 rfl (by repeat ((conv => arg 2; whnf); first | with_reducible exact .here | ((with_reducible refine Del.hereC ?_); rfl) | ((with_reducible refine Del.hereS ?_ ?_ ?_) <;> rfl) | exact .here | apply Del.there)) rfl) ?_
            refine gp_ev rfl (e_mv) ?_
            refine gp_ev rfl (e_ne rfl rfl) ?_
            refine gp_ev rfl (e_pk rfl) ?_
            refine gp_ev rfl (e_pk rfl) ?_
            refine gp_ev rfl (e_pk rfl) ?_
            refine gp_ev rfl (e_as) ?_
            refine gp_nil ?_
            exact ⟨(by (conv => lhs; whnf); try first | rfl | (refine congrArg Value.bool ?_; simp_all) | simp_all), (by (conv => lhs; whnf); try first | rfl | (refine congrArg Value.bool ?_; simp_all) | simp_all), (by (conv => lhs; whnf); try first | rfl | (refine congrArg Value.bool ?_; simp_all) | simp_all), (by (conv => lhs; whnf); refine congrArg Value.bool ?_; rw [Bool.eq_iff_iff, decide_eq_true_iff]; clear hr; (first | unfold EndS.bad4 | unfold EndS.bad5 | unfold EndS.bad6 | unfold EndS.bad7 | unfold EndS.bad8); first | (simp_all; done) | (simp_all; omega) | (simp; omega) | (generalize (f.data.any fun c => decide (c ≠ 0)) = q; cases q <;> simp_all)), (fun _ h => h.fin (L1 := [blk bl T (pre ++ (e.cells ++ post)), e.own, blk b4 43 (f.cells (.slice a f.data.length c)), A]) (F := F) (by repeat ((conv => arg 1; whnf); (conv => arg 2; whnf); first | with_reducible exact .done | exact Fin.all _ | refine .cons (by repeat ((conv => arg 2; whnf); first | with_reducible exact .here | ((with_reducible refine Del.hereC ?_); rfl) | ((with_reducible refine Del.hereS ?_ ?_ ?_) <;> rfl) | exact .here | apply Del.there)) ?_ | refine .drop ?_)))⟩
          · skip
            refine gp_not rfl ?_
            refine gp_not rfl ?_
            refine gp_not rfl ?_
            refine gp_not rfl ?_
            refine gp_not rfl ?_
            refine gp_not rfl ?_
            refine gp_ev rfl (e_pk rfl) ?_
            refine gp_ev rfl (e_pk rfl) ?_
            refine gp_ev rfl (e_pk rfl) ?_
            refine gp_ev rfl (e_as) ?_
            refine gp_nil ?_
            exact ⟨(by (conv => lhs; whnf); try first | rfl | (refine congrArg Value.bool ?_; simp_all) | simp_all), (by (conv => lhs; whnf); try first | rfl | (refine congrArg Value.bool ?_; simp_all) | simp_all), (by (conv => lhs; whnf); try first | rfl | (refine congrArg Value.bool ?_; simp_all) | simp_all), (by (conv => lhs; whnf); refine congrArg Value.bool ?_; rw [Bool.eq_iff_iff, decide_eq_true_iff]; clear hr; (first | unfold EndS.bad4 | unfold EndS.bad5 | unfold EndS.bad6 | unfold EndS.bad7 | unfold EndS.bad8); first | (simp_all; done) | (simp_all; omega) | (simp; omega) | (generalize (f.data.any fun c => decide (c ≠ 0)) = q; cases q <;> simp_all)), (fun _ h => h.fin (L1 := [blk bl T (pre ++ (e.cells ++ post)), e.own, blk b4 43 (f.cells (.slice a f.data.length c)), A]) (F := F) (by repeat ((conv => arg 1; whnf); (conv => arg 2; whnf); first | with_reducible exact .done | exact Fin.all _ | refine .cons (by repeat ((conv => arg 2; whnf); first | with_reducible exact .here | ((with_reducible refine Del.hereC ?_); rfl) | ((with_reducible refine Del.hereS ?_ ?_ ?_) <;> rfl) | exact .here | apply Del.there)) ?_ | refine .drop ?_)))⟩
    · skip
      refine gp_not rfl ?_
      refine gp_not rfl ?_
      refine gp_not rfl ?_
      refine gp_not rfl ?_
      refine gp_not rfl ?_
      refine gp_not rfl ?_
      refine gp_notf rfl ?_
      refine gp_not rfl ?_
      refine gp_not rfl ?_
      refine gp_not rfl ?_
      refine gp_not rfl ?_
      refine gp_not rfl ?_
      refine gp_not rfl ?_
      refine gp_not rfl ?_
      refine gp_not rfl ?_
      refine gp_not rfl ?_
      refine gp_not rfl ?_
      refine gp_not rfl ?_
      refine gp_not rfl ?_
      refine gp_not rfl ?_
      refine gp_not rfl ?_
      refine gp_not rfl ?_
      refine gp_not rfl ?_
      refine gp_not rfl ?_
      refine gp_not rfl ?_
      refine gp_not rfl ?_
      refine gp_not rfl ?_
      refine gp_not rfl ?_
      refine gp_not rfl ?_
      refine gp_ev rfl (e_pk rfl) ?_
      refine gp_ev rfl (e_as) ?_
      refine gp_nil ?_
      exact ⟨(by (conv => lhs; whnf); try first | rfl | (refine congrArg Value.bool ?_; simp_all) | simp_all), (by (conv => lhs; whnf); try first | rfl | (refine congrArg Value.bool ?_; simp_all) | simp_all), (by (conv => lhs; whnf); try first | rfl | (refine congrArg Value.bool ?_; simp_all) | simp_all), (by (conv => lhs; whnf); refine congrArg Value.bool ?_; rw [Bool.eq_iff_iff, decide_eq_true_iff]; clear hr; (first | unfold EndS.bad4 | unfold EndS.bad5 | unfold EndS.bad6 | unfold EndS.bad7 | unfold EndS.bad8); first | (simp_all; done) | (simp_all; omega) | (simp; omega) | (generalize (f.data.any fun c => decide (c ≠ 0)) = q; cases q <;> simp_all)), (fun _ h => h.fin (L1 := [blk bl T (pre ++ (e.cells ++ post)), e.own, blk b4 43 (f.cells (.slice a f.data.length c)), A]) (F := F) (by repeat ((conv => arg 1; whnf); (conv => arg 2; whnf); first | with_reducible exact .done | exact Fin.all _ | refine .cons (by repeat ((conv => arg 2; whnf); first | with_reducible exact .here | ((with_reducible refine Del.hereC ?_); rfl) | ((with_reducible refine Del.hereS ?_ ?_ ?_) <;> rfl) | exact .here | apply Del.there)) ?_ | refine .drop ?_)))⟩
  · rintro E L ⟨s0, s2, s4, s7, hL⟩
    refine gc_imp hL ?_
    refine gc_slot 0 _ ?_ s0
    refine gc_slot 2 _ ?_ s2
    refine gc_slot 4 _ ?_ s4
    refine gc_slot 7 _ ?_ s7
    clear hL s0 s2 s4 s7
    first | refine gc_dec rfl (fun c7 => ?_) (fun c7 => ?_) | refine gc_ndec rfl (fun c7 => ?_) (fun c7 => ?_) | refine gc_cond rfl (fun c7 => ?_) (fun c7 => ?_)
    · skip
      refine gc_seq ?_
      refine gc_region ?_
      refine g_ev (e_as) ?_
      refine g_nil ?_
      refine gc_ret ?_
      exact ret1 (v := .int .i64 4) (L1 := [blk bl T (pre ++ (e.cells ++ post)), e.own, A]) rfl (by (conv => lhs; whnf); try rfl) ⟨by unfold EndS.out; rw [if_pos c7], by unfold EndS.out; rw [if_pos c7]⟩ (fun _ h => h.fin (by repeat ((conv => arg 1; whnf); (conv => arg 2; whnf); first | with_reducible exact .done | exact Fin.all _ | refine .cons (by repeat ((conv => arg 2; whnf); first | with_reducible exact .here | ((with_reducible refine Del.hereC ?_); rfl) | ((with_reducible refine Del.hereS ?_ ?_ ?_) <;> rfl) | exact .here | apply Del.there)) ?_ | refine .drop ?_)))
    · skip
      refine gc_seq ?_
      refine gc_cut (fun E L => E 0 = .pointer (some ⟨bl, pre.length, none⟩) ∧ E 2 = .int .u32 (ses : Int) ∧ E 4 = .pointer (some ⟨b4, 0, none⟩) ∧ E 41 = .bool (decide (EndS.bad5 f)) ∧ ∀ w, Sat B w L → Sat B w (blk bl T (pre ++ (e.cells ++ post)) :: e.own :: blk b4 43 (f.cells (.slice a f.data.length c)) :: A :: F)) ?_ ?_
      · skip
        refine gc_region ?_
        refine g_ev (e_fa Try.underlying43 rfl rfl Try.sizeOf4) ?_
        refine g_ev (e_ld Try.underlying4 rfl (by repeat ((conv => arg 2; whnf); first | with_reducible exact .here | ((with_reducible refine Del.hereC ?_); rfl) | ((with_reducible refine Del.hereS ?_ ?_ ?_) <;> rfl) | exact .here | apply Del.there)) rfl) ?_
        refine g_ev (e_not' rfl) ?_
        refine g_ev (e_mv) ?_
        first | refine g_dec 45 rfl (fun c45 => ?_) (fun c45 => ?_) | refine g_ndec 45 rfl (fun c45 => ?_) (fun c45 => ?_) | refine g_bool 45 rfl (fun c45 => ?_) (fun c45 => ?_)
        · skip
          refine g_ev (e_fa Try.underlying43 rfl rfl Try.sizeOf41) ?_
          refine g_ev (e_ld Try.underlying41 rfl (by repeat ((conv => arg 2; whnf); first | with_reducible exact .here | ((with_reducible refine Del.hereC ?_); rfl) | ((with_reducible refine Del.hereS ?_ ?_ ?_) <;> rfl) | exact .here | apply Del.there)) rfl) ?_
          refine g_eff (s_call (contains_t hr hm) (.cons (by repeat ((conv => arg 2; whnf); first | with_reducible exact .here | ((with_reducible refine Del.hereC ?_); rfl) | ((with_reducible refine Del.hereS ?_ ?_ ?_) <;> rfl) | exact .here | apply Del.there)) (.nil))) ?_
          rintro _ _ ⟨_, ⟨rfl, rfl⟩, rfl⟩
          refine g_ev (e_pk rfl) ?_
          refine g_ev (e_as) ?_
          refine g_nil ?_
          exact ⟨(by (conv => lhs; whnf); try first | rfl | (refine congrArg Value.bool ?_; simp_all) | simp_all), (by (conv => lhs; whnf); try first | rfl | (refine congrArg Value.bool ?_; simp_all) | simp_all), (by (conv => lhs; whnf); try first | rfl | (refine congrArg Value.bool ?_; simp_all) | simp_all), (by (conv => lhs; whnf); refine congrArg Value.bool ?_; rw [Bool.eq_iff_iff, decide_eq_true_iff]; clear hr; (first | unfold EndS.bad4 | unfold EndS.bad5 | unfold EndS.bad6 | unfold EndS.bad7 | unfold EndS.bad8); first | (simp_all; done) | (simp_all; omega) | (simp; omega) | (generalize (f.data.any fun c => decide (c ≠ 0)) = q; cases q <;> simp_all)), (fun _ h => h.fin (L1 := [blk bl T (pre ++ (e.cells ++ post)), e.own, blk b4 43 (f.cells (.slice a f.data.length c)), A]) (F := F) (by repeat ((conv => arg 1; whnf); (conv => arg 2; whnf); first | with_reducible exact .done | exact Fin.all _ | refine .cons (by repeat ((conv => arg 2; whnf); first | with_reducible exact .here | ((with_reducible refine Del.hereC ?_); rfl) | ((with_reducible refine Del.hereS ?_ ?_ ?_) <;> rfl) | exact .here | apply Del.there)) ?_ | refine .drop ?_)))⟩
        · skip
          refine g_not ?_
          refine g_not ?_
          refine g_not ?_
          refine g_ev (e_pk rfl) ?_
          refine g_ev (e_as) ?_
          refine g_nil ?_
          exact ⟨(by (conv => lhs; whnf); try first | rfl | (refine congrArg Value.bool ?_; simp_all) | simp_all), (by (conv => lhs; whnf); try first | rfl | (refine congrArg Value.bool ?_; simp_all) | simp_all), (by (conv => lhs; whnf); try first | rfl | (refine congrArg Value.bool ?_; simp_all) | simp_all), (by (conv => lhs; whnf); refine congrArg Value.bool ?_; rw [Bool.eq_iff_iff, decide_eq_true_iff]; clear hr; (first | unfold EndS.bad4 | unfold EndS.bad5 | unfold EndS.bad6 | unfold EndS.bad7 | unfold EndS.bad8); first | (simp_all; done) | (simp_all; omega) | (simp; omega) | (generalize (f.data.any fun c => decide (c ≠ 0)) = q; cases q <;> simp_all)), (fun _ h => h.fin (L1 := [blk bl T (pre ++ (e.cells ++ post)), e.own, blk b4 43 (f.cells (.slice a f.data.length c)), A]) (F := F) (by repeat ((conv => arg 1; whnf); (conv => arg 2; whnf); first | with_reducible exact .done | exact Fin.all _ | refine .cons (by repeat ((conv => arg 2; whnf); first | with_reducible exact .here | ((with_reducible refine Del.hereC ?_); rfl) | ((with_reducible refine Del.hereS ?_ ?_ ?_) <;> rfl) | exact .here | apply Del.there)) ?_ | refine .drop ?_)))⟩
      · rintro E L ⟨s0, s2, s4, s41, hL⟩
        refine gc_imp hL ?_
        refine gc_slot 0 _ ?_ s0
        refine gc_slot 2 _ ?_ s2
        refine gc_slot 4 _ ?_ s4
        refine gc_slot 41 _ ?_ s41
        clear hL s0 s2 s4 s41
        first | refine gc_dec rfl (fun c41 => ?_) (fun c41 => ?_) | refine gc_ndec rfl (fun c41 => ?_) (fun c41 => ?_) | refine gc_cond rfl (fun c41 => ?_) (fun c41 => ?_)
        · skip
          refine gc_seq ?_
          refine gc_region ?_
          refine g_ev (e_as) ?_
          refine g_nil ?_
          refine gc_ret ?_
          exact ret1 (v := .int .i64 5) (L1 := [blk bl T (pre ++ (e.cells ++ post)), e.own, A]) rfl (by (conv => lhs; whnf); try rfl) ⟨by unfold EndS.out; rw [if_neg c7, if_pos c41], by unfold EndS.out; rw [if_neg c7, if_pos c41]⟩ (fun _ h => h.fin (by repeat ((conv => arg 1; whnf); (conv => arg 2; whnf); first | with_reducible exact .done | exact Fin.all _ | refine .cons (by repeat ((conv => arg 2; whnf); first | with_reducible exact .here | ((with_reducible refine Del.hereC ?_); rfl) | ((with_reducible refine Del.hereS ?_ ?_ ?_) <;> rfl) | exact .here | apply Del.there)) ?_ | refine .drop ?_)))
        · skip
          refine gc_seq ?_
          refine gc_cut (fun E L => E 0 = .pointer (some ⟨bl, pre.length, none⟩) ∧ E 2 = .int .u32 (ses : Int) ∧ E 4 = .pointer (some ⟨b4, 0, none⟩) ∧ E 50 = .bool (decide (e.bad6 f)) ∧ ∀ w, Sat B w L → Sat B w (blk bl T (pre ++ (e.cells ++ post)) :: e.own :: blk b4 43 (f.cells (.slice a f.data.length c)) :: A :: F)) ?_ ?_
          · skip
            refine gc_draw (D := []) (fin := none) (plan := [(true, 0), (true, 1), (true, 2), (true, 3), (true, 4), (true, 5), (true, 6), (true, 7), (true, 8), (true, 9), (true, 10), (true, 11), (true, 12), (true, 13), (true, 14), (true, 15), (true, 16), (true, 17), (true, 18)]) rfl (by kernel_rfl) (by kernel_rfl) rfl .nil ?_
            refine gp_ev rfl (e_fa Try.underlying43 rfl rfl Try.sizeOf4) ?_
            refine gp_ev rfl (e_ld Try.underlying4 rfl (by repeat ((conv => arg 2; whnf); first | with_reducible exact .here | ((with_reducible refine Del.hereC ?_); rfl) | ((with_reducible refine Del.hereS ?_ ?_ ?_) <;> rfl) | exact .here | apply Del.there)) rfl) ?_
            refine gp_ev rfl (e_mv) ?_
            first | refine gp_dec 53 rfl (fun c53 => ?_) (fun c53 => ?_) | refine gp_ndec 53 rfl (fun c53 => ?_) (fun c53 => ?_) | refine gp_bool 53 rfl (fun c53 => ?_) (fun c53 => ?_)
            · skip
              refine gp_ev rfl (e_fa Try.underlying43 rfl rfl Try.sizeOf40) ?_
              refine gp_ev rfl (e_ld Try.underlying40 rfl (by repeat ((conv => arg 2; whnf); first | with_reducible exact .here | ((with_reducible refine Del.hereC ?_); rfl) | ((with_reducible refine Del.hereS ?_ ?_ ?_) <;> rfl) | exact .here | apply Del.there)) rfl) ?_
              refine gp_ev rfl (e_ne rfl rfl) ?_
              refine gp_ev rfl (e_mv) ?_
              first | refine gp_dec 57 rfl (fun c57 => ?_) (fun c57 => ?_) | refine gp_ndec 57 rfl (fun c57 => ?_) (fun c57 => ?_) | refine gp_bool 57 rfl (fun c57 => ?_) (fun c57 => ?_)
              · skip
                refine gp_not rfl ?_
                refine gp_not rfl ?_
                refine gp_not rfl ?_
                refine gp_not rfl ?_
                refine gp_not rfl ?_
                refine gp_not rfl ?_
                refine gp_not rfl ?_
                refine gp_not rfl ?_
                refine gp_not rfl ?_
                refine gp_ev rfl (e_pk rfl) ?_
                refine gp_ev rfl (e_pk rfl) ?_
                refine gp_ev rfl (e_as) ?_
                refine gp_nil ?_
                exact ⟨(by (conv => lhs; whnf); try first | rfl | (refine congrArg Value.bool ?_; simp_all) | simp_all), (by (conv => lhs; whnf); try first | rfl | (refine congrArg Value.bool ?_; simp_all) | simp_all), (by (conv => lhs; whnf); try first | rfl | (refine congrArg Value.bool ?_; simp_all) | simp_all), (by (conv => lhs; whnf); refine congrArg Value.bool ?_; rw [Bool.eq_iff_iff, decide_eq_true_iff]; clear hr; (first | unfold EndS.bad4 | unfold EndS.bad5 | unfold EndS.bad6 | unfold EndS.bad7 | unfold EndS.bad8); first | (simp_all; done) | (simp_all; omega) | (simp; omega) | (generalize (f.data.any fun c => decide (c ≠ 0)) = q; cases q <;> simp_all)), (fun _ h => h.fin (L1 := [blk bl T (pre ++ (e.cells ++ post)), e.own, blk b4 43 (f.cells (.slice a f.data.length c)), A]) (F := F) (by repeat ((conv => arg 1; whnf); (conv => arg 2; whnf); first | with_reducible exact .done | exact Fin.all _ | refine .cons (by repeat ((conv => arg 2; whnf); first | with_reducible exact .here | ((with_reducible refine Del.hereC ?_); rfl) | ((with_reducible refine Del.hereS ?_ ?_ ?_) <;> rfl) | exact .here | apply Del.there)) ?_ | refine .drop ?_)))⟩
              · skip
                refine gp_ev rfl (e_mv) ?_
                refine gp_ev rfl (e_nc rfl) ?_
                refine gp_ev rfl (e_fa Try.underlying61 rfl rfl Try.sizeOf3) ?_
                refine gp_ev rfl (e_ldm 6 Try.underlying3 rfl (by repeat ((conv => arg 2; whnf); first | with_reducible exact .here | ((with_reducible refine Del.hereC ?_); rfl) | ((with_reducible refine Del.hereS ?_ ?_ ?_) <;> rfl) | exact .here | apply Del.there)) rfl) ?_
                refine gp_ev rfl (e_mv) ?_
                refine gp_ev rfl (e_nc rfl) ?_
                refine gp_ev rfl (e_fa Try.underlying61 rfl rfl Try.sizeOf3) ?_
                refine gp_ev rfl (e_ldm 0 Try.underlying3 rfl (by repeat ((conv => arg 2; whnf); first | with_reducible exact .here | ((with_reducible refine Del.hereC ?_); rfl) | ((with_reducible refine Del.hereS ?_ ?_ ?_) <;> rfl) | exact .here | apply Del.there)) rfl) ?_
                refine gp_ev rfl (e_ge rfl rfl) ?_
                refine gp_ev rfl (e_pk rfl) ?_
                refine gp_ev rfl (e_pk rfl) ?_
                refine gp_ev rfl (e_as) ?_
                refine gp_nil ?_
                exact ⟨(by (conv => lhs; whnf); try first | rfl | (refine congrArg Value.bool ?_; simp_all) | simp_all), (by (conv => lhs; whnf); try first | rfl | (refine congrArg Value.bool ?_; simp_all) | simp_all), (by (conv => lhs; whnf); try first | rfl | (refine congrArg Value.bool ?_; simp_all) | simp_all), (by (conv => lhs; whnf); refine congrArg Value.bool ?_; rw [Bool.eq_iff_iff, decide_eq_true_iff]; clear hr; (first | unfold EndS.bad4 | unfold EndS.bad5 | unfold EndS.bad6 | unfold EndS.bad7 | unfold EndS.bad8); first | (simp_all; done) | (simp_all; omega) | (simp; omega) | (generalize (f.data.any fun c => decide (c ≠ 0)) = q; cases q <;> simp_all)), (fun _ h => h.fin (L1 := [blk bl T (pre ++ (e.cells ++ post)), e.own, blk b4 43 (f.cells (.slice a f.data.length c)), A]) (F := F) (by repeat ((conv => arg 1; whnf); (conv => arg 2; whnf); first | with_reducible exact .done | exact Fin.all _ | refine .cons (by repeat ((conv => arg 2; whnf); first | with_reducible exact .here | ((with_reducible refine Del.hereC ?_); rfl) | ((with_reducible refine Del.hereS ?_ ?_ ?_) <;> rfl) | exact .here | apply Del.there)) ?_ | refine .drop ?_)))⟩
            · skip
              refine gp_not rfl ?_
              refine gp_not rfl ?_
              refine gp_not rfl ?_
              refine gp_not rfl ?_
              refine gp_not rfl ?_
              refine gp_not rfl ?_
              refine gp_not rfl ?_
              refine gp_not rfl ?_
              refine gp_not rfl ?_
              refine gp_not rfl ?_
              refine gp_not rfl ?_
              refine gp_not rfl ?_
              refine gp_not rfl ?_
              refine gp_not rfl ?_
              refine gp_ev rfl (e_pk rfl) ?_
              refine gp_ev rfl (e_as) ?_
              refine gp_nil ?_
              exact ⟨(by (conv => lhs; whnf); try first | rfl | (refine congrArg Value.bool ?_; simp_all) | simp_all), (by (conv => lhs; whnf); try first | rfl | (refine congrArg Value.bool ?_; simp_all) | simp_all), (by (conv => lhs; whnf); try first | rfl | (refine congrArg Value.bool ?_; simp_all) | simp_all), (by (conv => lhs; whnf); refine congrArg Value.bool ?_; rw [Bool.eq_iff_iff, decide_eq_true_iff]; clear hr; (first | unfold EndS.bad4 | unfold EndS.bad5 | unfold EndS.bad6 | unfold EndS.bad7 | unfold EndS.bad8); first | (simp_all; done) | (simp_all; omega) | (simp; omega) | (generalize (f.data.any fun c => decide (c ≠ 0)) = q; cases q <;> simp_all)), (fun _ h => h.fin (L1 := [blk bl T (pre ++ (e.cells ++ post)), e.own, blk b4 43 (f.cells (.slice a f.data.length c)), A]) (F := F) (by repeat ((conv => arg 1; whnf); (conv => arg 2; whnf); first | with_reducible exact .done | exact Fin.all _ | refine .cons (by repeat ((conv => arg 2; whnf); first | with_reducible exact .here | ((with_reducible refine Del.hereC ?_); rfl) | ((with_reducible refine Del.hereS ?_ ?_ ?_) <;> rfl) | exact .here | apply Del.there)) ?_ | refine .drop ?_)))⟩
          · rintro E L ⟨s0, s2, s4, s50, hL⟩
            refine gc_imp hL ?_
            refine gc_slot 0 _ ?_ s0
            refine gc_slot 2 _ ?_ s2
            refine gc_slot 4 _ ?_ s4
            refine gc_slot 50 _ ?_ s50
            clear hL s0 s2 s4 s50
            first | refine gc_dec rfl (fun c50 => ?_) (fun c50 => ?_) | refine gc_ndec rfl (fun c50 => ?_) (fun c50 => ?_) | refine gc_cond rfl (fun c50 => ?_) (fun c50 => ?_)
            · skip
              refine gc_seq ?_
              refine gc_region ?_
              refine g_ev (e_as) ?_
              refine g_nil ?_
              refine gc_ret ?_
              exact ret1 (v := .int .i64 6) (L1 := [blk bl T (pre ++ (e.cells ++ post)), e.own, A]) rfl (by (conv => lhs; whnf); try rfl) ⟨by unfold EndS.out; rw [if_neg c7, if_neg c41, if_pos c50], by unfold EndS.out; rw [if_neg c7, if_neg c41, if_pos c50]⟩ (fun _ h => h.fin (by repeat ((conv => arg 1; whnf); (conv => arg 2; whnf); first | with_reducible exact .done | exact Fin.all _ | refine .cons (by repeat ((conv => arg 2; whnf); first | with_reducible exact .here | ((with_reducible refine Del.hereC ?_); rfl) | ((with_reducible refine Del.hereS ?_ ?_ ?_) <;> rfl) | exact .here | apply Del.there)) ?_ | refine .drop ?_)))
            · skip
              refine gc_seq ?_
              refine gc_cut (fun E L => E 0 = .pointer (some ⟨bl, pre.length, none⟩) ∧ E 2 = .int .u32 (ses : Int) ∧ E 4 = .pointer (some ⟨b4, 0, none⟩) ∧ E 69 = .bool (decide (e.bad7 f)) ∧ ∀ w, Sat B w L → Sat B w (blk bl T (pre ++ (e.cells ++ post)) :: e.own :: blk b4 43 (f.cells (.slice a f.data.length c)) :: A :: F)) ?_ ?_
              · skip
                refine gc_draw (D := []) (fin := none) (plan := [(true, 0), (true, 1), (true, 2), (true, 3), (true, 4), (true, 5), (true, 6), (true, 7), (true, 8), (true, 9), (true, 10), (true, 11), (true, 12), (true, 13), (true, 14)]) rfl (by kernel_rfl) (by kernel_rfl) rfl .nil ?_
                refine gp_ev rfl (e_mv) ?_
                refine gp_ev rfl (e_nc rfl) ?_
                refine gp_ev rfl (e_fa Try.underlying61 rfl rfl Try.sizeOf3) ?_
                refine gp_ev rfl (e_ldm 6 Try.underlying3 rfl (by repeat ((conv => arg 2; whnf); first | with_reducible exact .here | ((with_reducible refine Del.hereC ?_); rfl) | ((with_reducible refine Del.hereS ?_ ?_ ?_) <;> rfl) | exact .here | apply Del.there)) rfl) ?_
                refine gp_ev rfl (e_mv) ?_
                refine gp_ev rfl (e_nc rfl) ?_
                refine gp_ev rfl (e_fa Try.underlying61 rfl rfl Try.sizeOf3) ?_
                refine gp_ev rfl (e_ldm 0 Try.underlying3 rfl (by repeat ((conv => arg 2; whnf); first | with_reducible exact .here | ((with_reducible refine Del.hereC ?_); rfl) | ((with_reducible refine Del.hereS ?_ ?_ ?_) <;> rfl) | exact .here | apply Del.there)) rfl) ?_
                refine gp_ev rfl (e_ge rfl rfl) ?_
                refine gp_ev rfl (e_mv) ?_
                first | refine gp_dec 79 rfl (fun c79 => ?_) (fun c79 => ?_) | refine gp_ndec 79 rfl (fun c79 => ?_) (fun c79 => ?_) | refine gp_bool 79 rfl (fun c79 => ?_) (fun c79 => ?_)
                · skip
                  refine gp_ev rfl (e_fa Try.underlying43 rfl rfl Try.sizeOf40) ?_
                  refine gp_ev rfl (e_ld Try.underlying40 rfl (by repeat ((conv => arg 2; whnf); first | with_reducible exact .here | ((with_reducible refine Del.hereC ?_); rfl) | ((with_reducible refine Del.hereS ?_ ?_ ?_) <;> rfl) | exact .here | apply Del.there)) rfl) ?_
                  refine gp_ev rfl (e_eq rfl rfl) ?_
                  refine gp_ev rfl (e_pk rfl) ?_
                  refine gp_ev rfl (e_as) ?_
                  refine gp_nil ?_
                  exact ⟨(by (conv => lhs; whnf); try first | rfl | (refine congrArg Value.bool ?_; simp_all) | simp_all), (by (conv => lhs; whnf); try first | rfl | (refine congrArg Value.bool ?_; simp_all) | simp_all), (by (conv => lhs; whnf); try first | rfl | (refine congrArg Value.bool ?_; simp_all) | simp_all), (by (conv => lhs; whnf); refine congrArg Value.bool ?_; rw [Bool.eq_iff_iff, decide_eq_true_iff]; clear hr; (first | unfold EndS.bad4 | unfold EndS.bad5 | unfold EndS.bad6 | unfold EndS.bad7 | unfold EndS.bad8); first | (simp_all; done) | (simp_all; omega) | (simp; omega) | (generalize (f.data.any fun c => decide (c ≠ 0)) = q; cases q <;> simp_all)), (fun _ h => h.fin (L1 := [blk bl T (pre ++ (e.cells ++ post)), e.own, blk b4 43 (f.cells (.slice a f.data.length c)), A]) (F := F) (by repeat ((conv => arg 1; whnf); (conv => arg 2; whnf); first | with_reducible exact .done | exact Fin.all _ | refine .cons (by repeat ((conv => arg 2; whnf); first | with_reducible exact .here | ((with_reducible refine Del.hereC ?_); rfl) | ((with_reducible refine Del.hereS ?_ ?_ ?_) <;> rfl) | exact .here | apply Del.there)) ?_ | refine .drop ?_)))⟩
                · skip
                  refine gp_not rfl ?_
                  refine gp_not rfl ?_
                  refine gp_not rfl ?_
                  refine gp_ev rfl (e_pk rfl) ?_
                  refine gp_ev rfl (e_as) ?_
                  refine gp_nil ?_
                  exact ⟨(by (conv => lhs; whnf); try first | rfl | (refine congrArg Value.bool ?_; simp_all) | simp_all), (by (conv => lhs; whnf); try first | rfl | (refine congrArg Value.bool ?_; simp_all) | simp_all), (by (conv => lhs; whnf); try first | rfl | (refine congrArg Value.bool ?_; simp_all) | simp_all), (by (conv => lhs; whnf); refine congrArg Value.bool ?_; rw [Bool.eq_iff_iff, decide_eq_true_iff]; clear hr; (first | unfold EndS.bad4 | unfold EndS.bad5 | unfold EndS.bad6 | unfold EndS.bad7 | unfold EndS.bad8); first | (simp_all; done) | (simp_all; omega) | (simp; omega) | (generalize (f.data.any fun c => decide (c ≠ 0)) = q; cases q <;> simp_all)), (fun _ h => h.fin (L1 := [blk bl T (pre ++ (e.cells ++ post)), e.own, blk b4 43 (f.cells (.slice a f.data.length c)), A]) (F := F) (by repeat ((conv => arg 1; whnf); (conv => arg 2; whnf); first | with_reducible exact .done | exact Fin.all _ | refine .cons (by repeat ((conv => arg 2; whnf); first | with_reducible exact .here | ((with_reducible refine Del.hereC ?_); rfl) | ((with_reducible refine Del.hereS ?_ ?_ ?_) <;> rfl) | exact .here | apply Del.there)) ?_ | refine .drop ?_)))⟩
              · rintro E L ⟨s0, s2, s4, s69, hL⟩
                refine gc_imp hL ?_
                refine gc_slot 0 _ ?_ s0
                refine gc_slot 2 _ ?_ s2
                refine gc_slot 4 _ ?_ s4
                refine gc_slot 69 _ ?_ s69
                clear hL s0 s2 s4 s69
                first | refine gc_dec rfl (fun c69 => ?_) (fun c69 => ?_) | refine gc_ndec rfl (fun c69 => ?_) (fun c69 => ?_) | refine gc_cond rfl (fun c69 => ?_) (fun c69 => ?_)
                · skip
                  refine gc_seq ?_
                  refine gc_region ?_
                  refine g_ev (e_as) ?_
                  refine g_nil ?_
                  refine gc_ret ?_
                  exact ret1 (v := .int .i64 7) (L1 := [blk bl T (pre ++ (e.cells ++ post)), e.own, A]) rfl (by (conv => lhs; whnf); try rfl) ⟨by unfold EndS.out; rw [if_neg c7, if_neg c41, if_neg c50, if_pos c69], by unfold EndS.out; rw [if_neg c7, if_neg c41, if_neg c50, if_pos c69]⟩ (fun _ h => h.fin (by repeat ((conv => arg 1; whnf); (conv => arg 2; whnf); first | with_reducible exact .done | exact Fin.all _ | refine .cons (by repeat ((conv => arg 2; whnf); first | with_reducible exact .here | ((with_reducible refine Del.hereC ?_); rfl) | ((with_reducible refine Del.hereS ?_ ?_ ?_) <;> rfl) | exact .here | apply Del.there)) ?_ | refine .drop ?_)))
                · skip
                  refine gc_seq ?_
                  refine gc_cut (fun E L => E 0 = .pointer (some ⟨bl, pre.length, none⟩) ∧ E 2 = .int .u32 (ses : Int) ∧ E 4 = .pointer (some ⟨b4, 0, none⟩) ∧ E 84 = .bool (decide (e.bad8 f)) ∧ ∀ w, Sat B w L → Sat B w (blk bl T (pre ++ (e.cells ++ post)) :: e.own :: blk b4 43 (f.cells (.slice a f.data.length c)) :: A :: F)) ?_ ?_
                  · skip
                    refine gc_region ?_
                    refine g_ev (e_mv) ?_
                    refine g_ev (e_nc rfl) ?_
                    refine g_ev (e_fa Try.underlying61 rfl rfl Try.sizeOf40) ?_
                    refine g_ev (e_ldm 7 Try.underlying40 rfl (by repeat ((conv => arg 2; whnf); first | with_reducible exact .here | ((with_reducible refine Del.hereC ?_); rfl) | ((with_reducible refine Del.hereS ?_ ?_ ?_) <;> rfl) | exact .here | apply Del.there)) rfl) ?_
                    refine g_ev (e_ne rfl rfl) ?_
                    refine g_ev (e_mv) ?_
                    first | refine g_dec 90 rfl (fun c90 => ?_) (fun c90 => ?_) | refine g_ndec 90 rfl (fun c90 => ?_) (fun c90 => ?_) | refine g_bool 90 rfl (fun c90 => ?_) (fun c90 => ?_)
                    · skip
                      refine g_ev (e_fa Try.underlying43 rfl rfl Try.sizeOf40) ?_
                      refine g_ev (e_ld Try.underlying40 rfl (by repeat ((conv => arg 2; whnf); first | with_reducible exact .here | ((with_reducible refine Del.hereC ?_); rfl) | ((with_reducible refine Del.hereS ?_ ?_ ?_) <;> rfl) | exact .here | apply Del.there)) rfl) ?_
                      refine g_ev (e_eq rfl rfl) ?_
                      refine g_ev (e_pk rfl) ?_
                      refine g_ev (e_mv) ?_
                      first | refine g_dec 95 rfl (fun c95 => ?_) (fun c95 => ?_) | refine g_ndec 95 rfl (fun c95 => ?_) (fun c95 => ?_) | refine g_bool 95 rfl (fun c95 => ?_) (fun c95 => ?_)
                      · skip
                        refine g_ev (e_mv) ?_
                        refine g_ev (e_nc rfl) ?_
                        refine g_ev (e_fa Try.underlying61 rfl rfl Try.sizeOf4) ?_
                        refine g_ev (e_ldm 9 Try.underlying4 rfl (by repeat ((conv => arg 2; whnf); first | with_reducible exact .here | ((with_reducible refine Del.hereC ?_); rfl) | ((with_reducible refine Del.hereS ?_ ?_ ?_) <;> rfl) | exact .here | apply Del.there)) rfl) ?_
                        refine g_ev (e_not' rfl) ?_
                        refine g_ev (e_pk rfl) ?_
                        refine g_ev (e_as) ?_
                        refine g_nil ?_
                        exact ⟨(by (conv => lhs; whnf); try first | rfl | (refine congrArg Value.bool ?_; simp_all) | simp_all), (by (conv => lhs; whnf); try first | rfl | (refine congrArg Value.bool ?_; simp_all) | simp_all), (by (conv => lhs; whnf); try first | rfl | (refine congrArg Value.bool ?_; simp_all) | simp_all), (by (conv => lhs; whnf); refine congrArg Value.bool ?_; rw [Bool.eq_iff_iff, decide_eq_true_iff]; clear hr; (first | unfold EndS.bad4 | unfold EndS.bad5 | unfold EndS.bad6 | unfold EndS.bad7 | unfold EndS.bad8); first | (simp_all; done) | (simp_all; omega) | (simp; omega) | (generalize (f.data.any fun c => decide (c ≠ 0)) = q; cases q <;> simp_all)), (fun _ h => h.fin (L1 := [blk bl T (pre ++ (e.cells ++ post)), e.own, blk b4 43 (f.cells (.slice a f.data.length c)), A]) (F := F) (by repeat ((conv => arg 1; whnf); (conv => arg 2; whnf); first | with_reducible exact .done | exact Fin.all _ | refine .cons (by repeat ((conv => arg 2; whnf); first | with_reducible exact .here | ((with_reducible refine Del.hereC ?_); rfl) | ((with_reducible refine Del.hereS ?_ ?_ ?_) <;> rfl) | exact .here | apply Del.there)) ?_ | refine .drop ?_)))⟩
                      · skip
                        refine g_not ?_
                        refine g_not ?_
                        refine g_not ?_
                        refine g_not ?_
                        refine g_not ?_
                        refine g_ev (e_pk rfl) ?_
                        refine g_ev (e_as) ?_
                        refine g_nil ?_
                        exact ⟨(by (conv => lhs; whnf); try first | rfl | (refine congrArg Value.bool ?_; simp_all) | simp_all), (by (conv => lhs; whnf); try first | rfl | (refine congrArg Value.bool ?_; simp_all) | simp_all), (by (conv => lhs; whnf); try first | rfl | (refine congrArg Value.bool ?_; simp_all) | simp_all), (by (conv => lhs; whnf); refine congrArg Value.bool ?_; rw [Bool.eq_iff_iff, decide_eq_true_iff]; clear hr; (first | unfold EndS.bad4 | unfold EndS.bad5 | unfold EndS.bad6 | unfold EndS.bad7 | unfold EndS.bad8); first | (simp_all; done) | (simp_all; omega) | (simp; omega) | (generalize (f.data.any fun c => decide (c ≠ 0)) = q; cases q <;> simp_all)), (fun _ h => h.fin (L1 := [blk bl T (pre ++ (e.cells ++ post)), e.own, blk b4 43 (f.cells (.slice a f.data.length c)), A]) (F := F) (by repeat ((conv => arg 1; whnf); (conv => arg 2; whnf); first | with_reducible exact .done | exact Fin.all _ | refine .cons (by repeat ((conv => arg 2; whnf); first | with_reducible exact .here | ((with_reducible refine Del.hereC ?_); rfl) | ((with_reducible refine Del.hereS ?_ ?_ ?_) <;> rfl) | exact .here | apply Del.there)) ?_ | refine .drop ?_)))⟩
                    · skip
                      refine g_not ?_
                      refine g_not ?_
                      refine g_not ?_
                      refine g_ev (e_pk rfl) ?_
                      refine g_ev (e_mv) ?_
                      refine g_not ?_
                      refine g_not ?_
                      refine g_not ?_
                      refine g_not ?_
                      refine g_not ?_
                      refine g_ev (e_pk rfl) ?_
                      refine g_ev (e_as) ?_
                      refine g_nil ?_
                      exact ⟨(by (conv => lhs; whnf); try first | rfl | (refine congrArg Value.bool ?_; simp_all) | simp_all), (by (conv => lhs; whnf); try first | rfl | (refine congrArg Value.bool ?_; simp_all) | simp_all), (by (conv => lhs; whnf); try first | rfl | (refine congrArg Value.bool ?_; simp_all) | simp_all), (by (conv => lhs; whnf); refine congrArg Value.bool ?_; rw [Bool.eq_iff_iff, decide_eq_true_iff]; clear hr; (first | unfold EndS.bad4 | unfold EndS.bad5 | unfold EndS.bad6 | unfold EndS.bad7 | unfold EndS.bad8); first | (simp_all; done) | (simp_all; omega) | (simp; omega) | (generalize (f.data.any fun c => decide (c ≠ 0)) = q; cases q <;> simp_all)), (fun _ h => h.fin (L1 := [blk bl T (pre ++ (e.cells ++ post)), e.own, blk b4 43 (f.cells (.slice a f.data.length c)), A]) (F := F) (by repeat ((conv => arg 1; whnf); (conv => arg 2; whnf); first | with_reducible exact .done | exact Fin.all _ | refine .cons (by repeat ((conv => arg 2; whnf); first | with_reducible exact .here | ((with_reducible refine Del.hereC ?_); rfl) | ((with_reducible refine Del.hereS ?_ ?_ ?_) <;> rfl) | exact .here | apply Del.there)) ?_ | refine .drop ?_)))⟩
                  · rintro E L ⟨s0, s2, s4, s84, hL⟩
                    refine gc_imp hL ?_
                    refine gc_slot 0 _ ?_ s0
                    refine gc_slot 2 _ ?_ s2
                    refine gc_slot 4 _ ?_ s4
                    refine gc_slot 84 _ ?_ s84
                    clear hL s0 s2 s4 s84
                    first | refine gc_dec rfl (fun c84 => ?_) (fun c84 => ?_) | refine gc_ndec rfl (fun c84 => ?_) (fun c84 => ?_) | refine gc_cond rfl (fun c84 => ?_) (fun c84 => ?_)
                    · skip
                      refine gc_seq ?_
                      refine gc_region ?_
                      refine g_ev (e_as) ?_
                      refine g_nil ?_
                      refine gc_ret ?_
                      exact ret1 (v := .int .i64 8) (L1 := [blk bl T (pre ++ (e.cells ++ post)), e.own, A]) rfl (by (conv => lhs; whnf); try rfl) ⟨by unfold EndS.out; rw [if_neg c7, if_neg c41, if_neg c50, if_neg c69, if_pos c84], by unfold EndS.out; rw [if_neg c7, if_neg c41, if_neg c50, if_neg c69, if_pos c84]⟩ (fun _ h => h.fin (by repeat ((conv => arg 1; whnf); (conv => arg 2; whnf); first | with_reducible exact .done | exact Fin.all _ | refine .cons (by repeat ((conv => arg 2; whnf); first | with_reducible exact .here | ((with_reducible refine Del.hereC ?_); rfl) | ((with_reducible refine Del.hereS ?_ ?_ ?_) <;> rfl) | exact .here | apply Del.there)) ?_ | refine .drop ?_)))
                    · skip
                      refine gc_skip ?_
                      refine gc_seq ?_
                      refine gc_seq ?_
                      refine gc_draw (D := []) (fin := none) (plan := [(true, 0), (true, 1), (true, 2), (true, 3), (true, 4), (true, 5), (true, 6)]) rfl (by kernel_rfl) (by kernel_rfl) rfl .nil ?_
                      refine gp_ev rfl (e_fa Try.underlying43 rfl rfl Try.sizeOf40) ?_
                      refine gp_ev rfl (e_ld Try.underlying40 rfl (by repeat ((conv => arg 2; whnf); first | with_reducible exact .here | ((with_reducible refine Del.hereC ?_); rfl) | ((with_reducible refine Del.hereS ?_ ?_ ?_) <;> rfl) | exact .here | apply Del.there)) rfl) ?_
                      refine gp_ev rfl (e_mv) ?_
                      refine gp_ev rfl (e_nc rfl) ?_
                      refine gp_ev rfl (e_fa Try.underlying61 rfl rfl Try.sizeOf40) ?_
                      refine gp_ev rfl (e_ldm 7 Try.underlying40 rfl (by repeat ((conv => arg 2; whnf); first | with_reducible exact .here | ((with_reducible refine Del.hereC ?_); rfl) | ((with_reducible refine Del.hereS ?_ ?_ ?_) <;> rfl) | exact .here | apply Del.there)) rfl) ?_
                      refine gp_ev rfl (e_ne rfl rfl) ?_
                      refine gp_nil ?_
                      first | refine gc_dec rfl (fun c108 => ?_) (fun c108 => ?_) | refine gc_ndec rfl (fun c108 => ?_) (fun c108 => ?_) | refine gc_cond rfl (fun c108 => ?_) (fun c108 => ?_)
                      · skip
                        refine gc_region ?_
                        refine g_ev (e_mv) ?_
                        refine g_ev (e_nc rfl) ?_
                        refine g_ev (e_fa Try.underlying61 rfl rfl Try.sizeOf4) ?_
                        refine g_eff (s_stm 8 Try.sizeOf4 rfl (by repeat ((conv => arg 3; whnf); first | with_reducible exact .here | apply Turn.there))) ?_
                        rintro _ _ ⟨rfl, rfl⟩
                        refine g_nil ?_
                        refine gc_seq ?_
                        refine gc_region ?_
                        refine g_ev (e_mv) ?_
                        refine g_ev (e_mv) ?_
                        refine g_ev (e_fa Try.underlying43 rfl rfl Try.sizeOf40) ?_
                        refine g_ev (e_ld Try.underlying40 rfl (by repeat ((conv => arg 2; whnf); first | with_reducible exact .here | ((with_reducible refine Del.hereC ?_); rfl) | ((with_reducible refine Del.hereS ?_ ?_ ?_) <;> rfl) | exact .here | apply Del.there)) rfl) ?_
                        refine g_ev (e_nc rfl) ?_
                        refine g_ev (e_fa Try.underlying61 rfl rfl Try.sizeOf40) ?_
                        refine g_eff (s_stm 7 Try.sizeOf40 rfl (by repeat ((conv => arg 3; whnf); first | with_reducible exact .here | apply Turn.there))) ?_
                        rintro _ _ ⟨rfl, rfl⟩
                        refine g_ev (e_nc rfl) ?_
                        refine g_ev (e_fa Try.underlying61 rfl rfl Try.sizeOf4) ?_
                        refine g_eff (s_stm 9 Try.sizeOf4 rfl (by repeat ((conv => arg 3; whnf); first | with_reducible exact .here | apply Turn.there))) ?_
                        rintro _ _ ⟨rfl, rfl⟩
                        refine g_nil ?_
                        refine gc_seq ?_
                        refine gc_region ?_
                        refine g_ev (e_as) ?_
                        refine g_nil ?_
                        refine gc_ret ?_
                        have hx : e.out f ses = (0, ({ e with fresh := false, latched := f.code, acked := false } : EndS)) := by unfold EndS.out; rw [if_neg c7, if_neg c41, if_neg c50, if_neg c69, if_neg c84]; unfold EndS.outE; rw [if_pos c108]
                        exact ret1 (v := .int .i64 0) (L1 := [blk bl T (pre ++ (({ e with fresh := false, latched := f.code, acked := false } : EndS).cells ++ post)), ({ e with fresh := false, latched := f.code, acked := false } : EndS).own, A]) rfl (by (conv => lhs; whnf); try rfl) ⟨by rw [hx], by rw [hx]⟩ (fun _ h => h.fin (by repeat ((conv => arg 1; whnf); (conv => arg 2; whnf); first | with_reducible exact .done | exact Fin.all _ | refine .cons (by repeat ((conv => arg 2; whnf); first | with_reducible exact .here | ((with_reducible refine Del.hereC ?_); rfl) | ((with_reducible refine Del.hereS ?_ ?_ ?_) <;> rfl) | exact .here | apply Del.there)) ?_ | refine .drop ?_)))
                      · skip
                        refine gc_skip ?_
                        refine gc_seq ?_
                        refine gc_region ?_
                        refine g_ev (e_mv) ?_
                        refine g_ev (e_mv) ?_
                        refine g_ev (e_fa Try.underlying43 rfl rfl Try.sizeOf40) ?_
                        refine g_ev (e_ld Try.underlying40 rfl (by repeat ((conv => arg 2; whnf); first | with_reducible exact .here | ((with_reducible refine Del.hereC ?_); rfl) | ((with_reducible refine Del.hereS ?_ ?_ ?_) <;> rfl) | exact .here | apply Del.there)) rfl) ?_
                        refine g_ev (e_nc rfl) ?_
                        refine g_ev (e_fa Try.underlying61 rfl rfl Try.sizeOf40) ?_
                        refine g_eff (s_stm 7 Try.sizeOf40 rfl (by repeat ((conv => arg 3; whnf); first | with_reducible exact .here | apply Turn.there))) ?_
                        rintro _ _ ⟨rfl, rfl⟩
                        refine g_ev (e_nc rfl) ?_
                        refine g_ev (e_fa Try.underlying61 rfl rfl Try.sizeOf4) ?_
                        refine g_eff (s_stm 9 Try.sizeOf4 rfl (by repeat ((conv => arg 3; whnf); first | with_reducible exact .here | apply Turn.there))) ?_
                        rintro _ _ ⟨rfl, rfl⟩
                        refine g_nil ?_
                        refine gc_seq ?_
                        refine gc_region ?_
                        refine g_ev (e_as) ?_
                        refine g_nil ?_
                        refine gc_ret ?_
                        have hx : e.out f ses = (0, ({ e with fresh := e.fresh, latched := f.code, acked := false } : EndS)) := by unfold EndS.out; rw [if_neg c7, if_neg c41, if_neg c50, if_neg c69, if_neg c84]; unfold EndS.outE; rw [if_neg (by simpa using c108)]
                        exact ret1 (v := .int .i64 0) (L1 := [blk bl T (pre ++ (({ e with fresh := e.fresh, latched := f.code, acked := false } : EndS).cells ++ post)), ({ e with fresh := e.fresh, latched := f.code, acked := false } : EndS).own, A]) rfl (by (conv => lhs; whnf); try rfl) ⟨by rw [hx], by rw [hx]⟩ (fun _ h => h.fin (by repeat ((conv => arg 1; whnf); (conv => arg 2; whnf); first | with_reducible exact .done | exact Fin.all _ | refine .cons (by repeat ((conv => arg 2; whnf); first | with_reducible exact .here | ((with_reducible refine Del.hereC ?_); rfl) | ((with_reducible refine Del.hereS ?_ ?_ ?_) <;> rfl) | exact .here | apply Del.there)) ?_ | refine .drop ?_)))


abbrev Key := Int × Nat × Nat × List UInt8
def kv (k : Key) : Value := .agg #[.int .i64 k.1, .int .u32 (k.2.1 : Int), .int .u32 (k.2.2.1 : Int), .string ⟨k.2.2.2.toArray⟩]
theorem run_part1 {P : Program} {T : TypeId} {D : TypeDesc} {cs : Array Value} {off : Nat} {v : Value} (hu : P.underlying T = some D) (hD : aggD D = false) (hv : cs[off]? = some v) (w : World) : (part T cs off).run P w = .ok v w := by
  have hi := run_isAgg hu w
  rw [hD] at hi
  simp [part, hi, hv]
theorem keyTy : KeyTy Try.prog 75 kv where
  eq a b w := by
    have h := run_equalIn_struct (P := Try.prog) w 9999 75 (kv a).cells (kv b).cells (by kernel_rfl) (by kernel_rfl)
    show (Op.equalIn 10000 75 (kv a) (kv b)).run Try.prog w = _
    rw [show (Op.equalIn 10000 75 (kv a) (kv b)).run Try.prog w = _ from h]
    unfold Program.fieldsOf
    rw [Try.underlying75]
    have p0 : ∀ k : Key, (part 39 (kv k).cells 0).run Try.prog w = .ok (.int .i64 k.1) w := fun k => run_part1 Try.underlying39 rfl rfl w
    have p1 : ∀ k : Key, (part 23 (kv k).cells 1).run Try.prog w = .ok (.int .u32 (k.2.1 : Int)) w := fun k => run_part1 Try.underlying23 rfl rfl w
    have p2 : ∀ k : Key, (part 23 (kv k).cells 2).run Try.prog w = .ok (.int .u32 (k.2.2.1 : Int)) w := fun k => run_part1 Try.underlying23 rfl rfl w
    have p3 : ∀ k : Key, (part 9 (kv k).cells 3).run Try.prog w = .ok (.string ⟨k.2.2.2.toArray⟩) w := fun k => run_part1 Try.underlying9 rfl rfl w
    have q0 := run_equalIn_int (P := Try.prog) w 9998 39 .i64 .i64 a.1 b.1 Try.underlying39
    have q1 := run_equalIn_int (P := Try.prog) w 9998 23 .u32 .u32 (a.2.1 : Int) (b.2.1 : Int) Try.underlying23
    have q2 := run_equalIn_int (P := Try.prog) w 9998 23 .u32 .u32 (a.2.2.1 : Int) (b.2.2.1 : Int) Try.underlying23
    have q3 := run_equalIn_string (P := Try.prog) w 9998 9 ⟨a.2.2.2.toArray⟩ ⟨b.2.2.2.toArray⟩ Try.underlying9
    simp only [Op.eqFields, Sem.run_bind, Sem.run_ite, p0, p1, p2, p3, Result.andThen_ok, q0, q1, q2, q3, Sem.run_pure, bytes_toList]
    obtain ⟨a1, a2, a3, a4⟩ := a
    obtain ⟨b1, b2, b3, b4⟩ := b
    by_cases h1 : a1 = b1 <;> by_cases h2 : a2 = b2 <;> by_cases h3 : a3 = b3 <;> by_cases h4 : a4 = b4 <;> simp [h1, h2, h3, h4, Int.natCast_inj]
  check em a w := by
    have p0 : ∀ k : Key, (part 39 (kv k).cells 0).run Try.prog w = .ok (.int .i64 k.1) w := fun k => run_part1 Try.underlying39 rfl rfl w
    have p1 : ∀ k : Key, (part 23 (kv k).cells 1).run Try.prog w = .ok (.int .u32 (k.2.1 : Int)) w := fun k => run_part1 Try.underlying23 rfl rfl w
    have p2 : ∀ k : Key, (part 23 (kv k).cells 2).run Try.prog w = .ok (.int .u32 (k.2.2.1 : Int)) w := fun k => run_part1 Try.underlying23 rfl rfl w
    have p3 : ∀ k : Key, (part 9 (kv k).cells 3).run Try.prog w = .ok (.string ⟨k.2.2.2.toArray⟩) w := fun k => run_part1 Try.underlying9 rfl rfl w
    have c1 : ∀ (T : TypeId) (k : IntKind) (k' : IntKind) (n : Int), Try.prog.underlying T = some (.int k) → (Instr.checkKey em 9999 T (.int k' n)).run Try.prog w = .ok () w := fun T k k' n h => by
      show (Instr.checkKey em (9998 + 1) T _).run Try.prog w = _
      unfold Instr.checkKey
      simp [run_underlying h]
    have c2 : ∀ (T : TypeId) (s : ByteArray), Try.prog.underlying T = some .string → (Instr.checkKey em 9999 T (.string s)).run Try.prog w = .ok () w := fun T s h => by
      show (Instr.checkKey em (9998 + 1) T _).run Try.prog w = _
      unfold Instr.checkKey
      simp [run_underlying h]
    show (Instr.checkKey em (9999 + 1) 75 (.agg (kv a).cells)).run Try.prog w = _
    unfold Instr.checkKey
    simp only [Sem.run_bind, run_underlying Try.underlying75, Result.andThen_ok]
    simp [p0, p1, p2, p3, c1 39 _ _ _ Try.underlying39, c1 23 _ _ _ Try.underlying23, c2 9 _ Try.underlying9]
  same a := by
    simp [kv, Instr.sameBits]
    rw [beq_toListBytes]; simp
  now := ⟨_, Try.underlying75, fun a b => rfl⟩
theorem if_bool {p : Prop} [Decidable p] : (if p then Value.bool true else .bool false) = .bool (decide p) := by by_cases h : p <;> simp [h]
def EndS.bad2 (f : FactS) (ses : Nat) (keys : List Key) : Prop := (f.side = 2 ∧ f.sess ≠ ses) ∨ (3 - f.side, f.sess, f.num, f.data) ∉ keys
def EndS.bad3 (e : EndS) (f : FactS) : Prop := e.some_ = true ∧ (f.sess < e.sess ∨ f.sess = e.sess ∧ f.num ≤ e.num)
instance (f : FactS) (ses : Nat) (keys : List Key) : Decidable (EndS.bad2 f ses keys) := by unfold EndS.bad2; infer_instance
instance (e : EndS) (f : FactS) : Decidable (e.bad3 f) := by unfold EndS.bad3; infer_instance
def EndS.takenE (e : EndS) (f : FactS) (va : Option Addr) (vc : Nat) : EndS := { e with some_ := true, sess := f.sess, num := f.num, va := va, vc := vc, in_ := f.sess, vs := f.data }
def EndS.taken (e : EndS) (f : FactS) (ses : Nat) (keys : List Key) (va : Option Addr) (vc : Nat) : Int × EndS :=
  if EndS.bad2 f ses keys then (2, e) else if e.bad3 f then (3, e) else (0, e.takenE f va vc)

theorem taken_t {bl T : Nat} {pre post : List Value} (e : EndS) (f : FactS) (ses o bm clk : Nat) (sent : List (Key × Nat)) {a : Option Addr} {c : Nat} {A : HProp} (hr : ∀ B w, Sat B w [A] → Rds w 1 (.slice a f.data.length c) f.data.length (bv f.data)) (hm : f.data.length ≤ 140737488355328) (hside : f.side = 1 ∨ f.side = 2) (hl20 : (pre ++ (e.cells ++ post))[o + 20]? = some (.int .u32 (ses : Int))) (hl21 : (pre ++ (e.cells ++ post))[o + 21]? = some (.map (some bm))) : Tri Try.prog 21 #[.pointer (some ⟨bl, o, none⟩), .pointer (some ⟨bl, pre.length, none⟩), .agg ⟨f.cells (.slice a f.data.length c)⟩] [blk bl T (pre ++ (e.cells ++ post)), e.own, setB kv (.bool true) bm sent clk, A] (fun v L => ∃ va vc, v = .int .i64 (e.taken f ses (sent.map (·.1)) va vc).1 ∧ L = [blk bl T (pre ++ ((e.taken f ses (sent.map (·.1)) va vc).2.cells ++ post)), (e.taken f ses (sent.map (·.1)) va vc).2.own, setB kv (.bool true) bm sent clk, A]) := by
  refine tri_of Try.call21 Try.func21 rfl fun B F => ?_
  refine gc_seq ?_
  refine gc_region ?_
  refine g_eff (s_bx) ?_
  rintro _ _ ⟨b5, rfl, rfl⟩
  refine g_ev (e_as) ?_
  refine g_nil ?_
  refine gc_seq ?_
  refine gc_region ?_
  refine g_ev (e_fa Try.underlying43 rfl rfl Try.sizeOf39) ?_
  refine g_ev (e_ld Try.underlying39 rfl (by repeat ((conv => arg 2; whnf); first | with_reducible exact .here | ((with_reducible refine Del.hereC ?_); rfl) | ((with_reducible refine Del.hereS ?_ ?_ ?_) <;> rfl) | exact .here | apply Del.there)) rfl) ?_
  refine g_ev ((e_subw rfl rfl).to (v' := .int .i64 (3 - f.side)) (by rcases hside with h | h <;> rw [h] <;> rfl)) ?_
  refine g_ev (e_as) ?_
  refine g_nil ?_
  refine gc_seq ?_
  refine gc_region ?_
  refine g_ev (e_fa Try.underlying43 rfl rfl Try.sizeOf39) ?_
  refine g_ev (e_ld Try.underlying39 rfl (by repeat ((conv => arg 2; whnf); first | with_reducible exact .here | ((with_reducible refine Del.hereC ?_); rfl) | ((with_reducible refine Del.hereS ?_ ?_ ?_) <;> rfl) | exact .here | apply Del.there)) rfl) ?_
  refine g_ev (e_eq rfl rfl) ?_
  refine g_ev (e_as) ?_
  refine g_nil ?_
  refine gc_seq ?_
  refine gc_block ?_
  refine gc_seq ?_
  refine gc_cut (fun E L => E 0 = .pointer (some ⟨bl, o, none⟩) ∧ E 1 = .pointer (some ⟨bl, pre.length, none⟩) ∧ E 5 = .pointer (some ⟨b5, 0, none⟩) ∧ E 15 = .bool (decide (EndS.bad2 f ses (sent.map (·.1)))) ∧ ∀ w, Sat B w L → Sat B w (blk bl T (pre ++ (e.cells ++ post)) :: e.own :: setB kv (.bool true) bm sent clk :: blk b5 43 (f.cells (.slice a f.data.length c)) :: A :: F)) ?_ ?_
  · skip
    refine gc_draw (D := []) (fin := none) (plan := [(true, 0), (true, 1), (true, 2), (true, 3), (true, 4), (true, 5), (true, 6), (true, 7), (true, 8), (true, 9), (true, 10), (true, 11), (true, 12), (true, 13), (true, 14), (true, 15), (true, 16), (true, 17), (true, 18), (true, 19), (true, 20), (true, 21), (true, 22), (true, 23), (true, 24), (true, 25), (true, 26), (true, 27)]) rfl (by kernel_rfl) (by kernel_rfl) rfl .nil ?_
    refine gp_ev rfl (e_mv) ?_
    refine gp_ev rfl (e_mv) ?_
    first | refine gp_dec 17 rfl (fun c17 => ?_) (fun c17 => ?_) | refine gp_ndec 17 rfl (fun c17 => ?_) (fun c17 => ?_) | refine gp_bool 17 rfl (fun c17 => ?_) (fun c17 => ?_)
    · skip
      refine gp_ev rfl (e_fa Try.underlying43 rfl rfl Try.sizeOf23) ?_
      refine gp_ev rfl (e_ld Try.underlying23 rfl (by repeat ((conv => arg 2; whnf); first | with_reducible exact .here | ((with_reducible refine Del.hereC ?_); rfl) | ((with_reducible refine Del.hereS ?_ ?_ ?_) <;> rfl) | exact .here | apply Del.there)) rfl) ?_
      refine gp_ev rfl (e_mv) ?_
      refine gp_ev rfl (e_nc rfl) ?_
      refine gp_ev rfl (e_fa Try.underlying64 rfl rfl Try.sizeOf23) ?_
      refine gp_ev rfl (e_ld Try.underlying23 rfl (by repeat ((conv => arg 2; whnf); first | with_reducible exact .here | ((with_reducible refine Del.hereC ?_); rfl) | ((with_reducible refine Del.hereS ?_ ?_ ?_) <;> rfl) | exact .here | apply Del.there)) hl20) ?_
      refine gp_ev rfl (e_ne rfl rfl) ?_
      refine gp_ev rfl (e_pk rfl) ?_
      refine gp_ev rfl (e_mv) ?_
      first | refine gp_dec 26 rfl (fun c26 => ?_) (fun c26 => ?_) | refine gp_ndec 26 rfl (fun c26 => ?_) (fun c26 => ?_) | refine gp_bool 26 rfl (fun c26 => ?_) (fun c26 => ?_)
      · skip
        refine gp_not rfl ?_
        refine gp_not rfl ?_
        refine gp_not rfl ?_
        refine gp_not rfl ?_
        refine gp_not rfl ?_
        refine gp_not rfl ?_
        refine gp_not rfl ?_
        refine gp_not rfl ?_
        refine gp_not rfl ?_
        refine gp_not rfl ?_
        refine gp_not rfl ?_
        refine gp_not rfl ?_
        refine gp_not rfl ?_
        refine gp_not rfl ?_
        refine gp_not rfl ?_
        refine gp_ev rfl (e_pk rfl) ?_
        refine gp_ev rfl (e_as) ?_
        refine gp_nil ?_
        exact ⟨(by (conv => lhs; whnf); try first | rfl | (refine congrArg Value.bool ?_; simp_all) | simp_all), (by (conv => lhs; whnf); try first | rfl | (refine congrArg Value.bool ?_; simp_all) | simp_all), (by (conv => lhs; whnf); try first | rfl | (refine congrArg Value.bool ?_; simp_all) | simp_all), (by (conv => lhs; whnf); refine congrArg Value.bool ?_; rw [Bool.eq_iff_iff, decide_eq_true_iff]; clear hr; unfold EndS.bad2; first | (simp_all; done) | (simp_all; omega) | (simp; omega)), (fun _ h => h.fin (L1 := [blk bl T (pre ++ (e.cells ++ post)), e.own, setB kv (.bool true) bm sent clk, blk b5 43 (f.cells (.slice a f.data.length c)), A]) (F := F) (by repeat ((conv => arg 1; whnf); (conv => arg 2; whnf); first | with_reducible exact .done | exact Fin.all _ | refine .cons (by repeat ((conv => arg 2; whnf); first | with_reducible exact .here | ((with_reducible refine Del.hereC ?_); rfl) | ((with_reducible refine Del.hereS ?_ ?_ ?_) <;> rfl) | exact .here | apply Del.there)) ?_ | refine .drop ?_)))⟩
      · skip
        refine gp_ev rfl (e_mv) ?_
        refine gp_ev rfl (e_nc rfl) ?_
        refine gp_ev rfl (e_fa Try.underlying64 rfl rfl Try.sizeOf59) ?_
        refine gp_ev rfl (e_ld Try.underlying59 rfl (by repeat ((conv => arg 2; whnf); first | with_reducible exact .here | ((with_reducible refine Del.hereC ?_); rfl) | ((with_reducible refine Del.hereS ?_ ?_ ?_) <;> rfl) | exact .here | apply Del.there)) hl21) ?_
        refine gp_ev rfl (e_mv) ?_
        refine gp_ev rfl (e_fa Try.underlying43 rfl rfl Try.sizeOf23) ?_
        refine gp_ev rfl (e_ld Try.underlying23 rfl (by repeat ((conv => arg 2; whnf); first | with_reducible exact .here | ((with_reducible refine Del.hereC ?_); rfl) | ((with_reducible refine Del.hereS ?_ ?_ ?_) <;> rfl) | exact .here | apply Del.there)) rfl) ?_
        refine gp_ev rfl (e_fa Try.underlying43 rfl rfl Try.sizeOf23) ?_
        refine gp_ev rfl (e_ld Try.underlying23 rfl (by repeat ((conv => arg 2; whnf); first | with_reducible exact .here | ((with_reducible refine Del.hereC ?_); rfl) | ((with_reducible refine Del.hereS ?_ ?_ ?_) <;> rfl) | exact .here | apply Del.there)) rfl) ?_
        refine gp_ev rfl (e_fa Try.underlying43 rfl rfl Try.sizeOf41) ?_
        refine gp_ev rfl (e_ld Try.underlying41 rfl (by repeat ((conv => arg 2; whnf); first | with_reducible exact .here | ((with_reducible refine Del.hereC ?_); rfl) | ((with_reducible refine Del.hereS ?_ ?_ ?_) <;> rfl) | exact .here | apply Del.there)) rfl) ?_
        refine gp_ev rfl (e_b2s (bs := f.data) Try.underlying41 Try.underlying5 Try.underlying9 rfl (fun B w h => hr B w ((h.fin (L1 := [A]) (F := F) (by repeat ((conv => arg 1; whnf); (conv => arg 2; whnf); first | with_reducible exact .done | exact Fin.all _ | refine .cons (by repeat ((conv => arg 2; whnf); first | with_reducible exact .here | ((with_reducible refine Del.hereC ?_); rfl) | ((with_reducible refine Del.hereS ?_ ?_ ?_) <;> rfl) | exact .here | apply Del.there)) ?_ | refine .drop ?_))).left (L1 := [A])))) ?_
        refine gp_ev rfl ((e_bd Try.underlying75 Try.zeroValue75 pl75 rfl).to (v' := .agg ⟨[.int .i64 (3 - f.side), .int .u32 (f.sess : Int), .int .u32 (f.num : Int), .string ⟨f.data.toArray⟩]⟩) rfl) ?_
        refine gp_ev rfl ((e_lk (a := ((3 - f.side, f.sess, f.num, f.data) : Key)) keyTy Try.underlying59 Try.zeroValue4 rfl rfl (by repeat ((conv => arg 2; whnf); first | with_reducible exact .here | ((with_reducible refine Del.hereC ?_); rfl) | ((with_reducible refine Del.hereS ?_ ?_ ?_) <;> rfl) | exact .here | apply Del.there))).to (v' := .bool (decide (((3 - f.side, f.sess, f.num, f.data) : Key) ∈ sent.map (·.1)))) (by split <;> first | exact congrArg Value.bool (decide_eq_true (by assumption)).symm | exact congrArg Value.bool (decide_eq_false (by assumption)).symm)) ?_
        refine gp_ev rfl (e_not' rfl) ?_
        refine gp_ev rfl (e_pk rfl) ?_
        refine gp_ev rfl (e_as) ?_
        refine gp_nil ?_
        exact ⟨(by (conv => lhs; whnf); try first | rfl | (refine congrArg Value.bool ?_; simp_all) | simp_all), (by (conv => lhs; whnf); try first | rfl | (refine congrArg Value.bool ?_; simp_all) | simp_all), (by (conv => lhs; whnf); try first | rfl | (refine congrArg Value.bool ?_; simp_all) | simp_all), (by (conv => lhs; whnf); refine congrArg Value.bool ?_; rw [Bool.eq_iff_iff, decide_eq_true_iff]; clear hr; unfold EndS.bad2; first | (simp_all; done) | (simp_all; omega) | (simp; omega)), (fun _ h => h.fin (L1 := [blk bl T (pre ++ (e.cells ++ post)), e.own, setB kv (.bool true) bm sent clk, blk b5 43 (f.cells (.slice a f.data.length c)), A]) (F := F) (by repeat ((conv => arg 1; whnf); (conv => arg 2; whnf); first | with_reducible exact .done | exact Fin.all _ | refine .cons (by repeat ((conv => arg 2; whnf); first | with_reducible exact .here | ((with_reducible refine Del.hereC ?_); rfl) | ((with_reducible refine Del.hereS ?_ ?_ ?_) <;> rfl) | exact .here | apply Del.there)) ?_ | refine .drop ?_)))⟩
    · skip
      refine gp_not rfl ?_
      refine gp_not rfl ?_
      refine gp_not rfl ?_
      refine gp_not rfl ?_
      refine gp_not rfl ?_
      refine gp_not rfl ?_
      refine gp_not rfl ?_
      refine gp_ev rfl (e_pk rfl) ?_
      refine gp_ev rfl (e_mv) ?_
      refine gp_ev rfl (e_mv) ?_
      refine gp_ev rfl (e_nc rfl) ?_
      refine gp_ev rfl (e_fa Try.underlying64 rfl rfl Try.sizeOf59) ?_
      refine gp_ev rfl (e_ld Try.underlying59 rfl (by repeat ((conv => arg 2; whnf); first | with_reducible exact .here | ((with_reducible refine Del.hereC ?_); rfl) | ((with_reducible refine Del.hereS ?_ ?_ ?_) <;> rfl) | exact .here | apply Del.there)) hl21) ?_
      refine gp_ev rfl (e_mv) ?_
      refine gp_ev rfl (e_fa Try.underlying43 rfl rfl Try.sizeOf23) ?_
      refine gp_ev rfl (e_ld Try.underlying23 rfl (by repeat ((conv => arg 2; whnf); first | with_reducible exact .here | ((with_reducible refine Del.hereC ?_); rfl) | ((with_reducible refine Del.hereS ?_ ?_ ?_) <;> rfl) | exact .here | apply Del.there)) rfl) ?_
      refine gp_ev rfl (e_fa Try.underlying43 rfl rfl Try.sizeOf23) ?_
      refine gp_ev rfl (e_ld Try.underlying23 rfl (by repeat ((conv => arg 2; whnf); first | with_reducible exact .here | ((with_reducible refine Del.hereC ?_); rfl) | ((with_reducible refine Del.hereS ?_ ?_ ?_) <;> rfl) | exact .here | apply Del.there)) rfl) ?_
      refine gp_ev rfl (e_fa Try.underlying43 rfl rfl Try.sizeOf41) ?_
      refine gp_ev rfl (e_ld Try.underlying41 rfl (by repeat ((conv => arg 2; whnf); first | with_reducible exact .here | ((with_reducible refine Del.hereC ?_); rfl) | ((with_reducible refine Del.hereS ?_ ?_ ?_) <;> rfl) | exact .here | apply Del.there)) rfl) ?_
      refine gp_ev rfl (e_b2s (bs := f.data) Try.underlying41 Try.underlying5 Try.underlying9 rfl (fun B w h => hr B w ((h.fin (L1 := [A]) (F := F) (by repeat ((conv => arg 1; whnf); (conv => arg 2; whnf); first | with_reducible exact .done | exact Fin.all _ | refine .cons (by repeat ((conv => arg 2; whnf); first | with_reducible exact .here | ((with_reducible refine Del.hereC ?_); rfl) | ((with_reducible refine Del.hereS ?_ ?_ ?_) <;> rfl) | exact .here | apply Del.there)) ?_ | refine .drop ?_))).left (L1 := [A])))) ?_
      refine gp_ev rfl ((e_bd Try.underlying75 Try.zeroValue75 pl75 rfl).to (v' := .agg ⟨[.int .i64 (3 - f.side), .int .u32 (f.sess : Int), .int .u32 (f.num : Int), .string ⟨f.data.toArray⟩]⟩) rfl) ?_
      refine gp_ev rfl ((e_lk (a := ((3 - f.side, f.sess, f.num, f.data) : Key)) keyTy Try.underlying59 Try.zeroValue4 rfl rfl (by repeat ((conv => arg 2; whnf); first | with_reducible exact .here | ((with_reducible refine Del.hereC ?_); rfl) | ((with_reducible refine Del.hereS ?_ ?_ ?_) <;> rfl) | exact .here | apply Del.there))).to (v' := .bool (decide (((3 - f.side, f.sess, f.num, f.data) : Key) ∈ sent.map (·.1)))) (by split <;> first | exact congrArg Value.bool (decide_eq_true (by assumption)).symm | exact congrArg Value.bool (decide_eq_false (by assumption)).symm)) ?_
      refine gp_ev rfl (e_not' rfl) ?_
      refine gp_ev rfl (e_pk rfl) ?_
      refine gp_ev rfl (e_as) ?_
      refine gp_nil ?_
      exact ⟨(by (conv => lhs; whnf); try first | rfl | (refine congrArg Value.bool ?_; simp_all) | simp_all), (by (conv => lhs; whnf); try first | rfl | (refine congrArg Value.bool ?_; simp_all) | simp_all), (by (conv => lhs; whnf); try first | rfl | (refine congrArg Value.bool ?_; simp_all) | simp_all), (by (conv => lhs; whnf); refine congrArg Value.bool ?_; rw [Bool.eq_iff_iff, decide_eq_true_iff]; clear hr; unfold EndS.bad2; first | (simp_all; done) | (simp_all; omega) | (simp; omega)), (fun _ h => h.fin (L1 := [blk bl T (pre ++ (e.cells ++ post)), e.own, setB kv (.bool true) bm sent clk, blk b5 43 (f.cells (.slice a f.data.length c)), A]) (F := F) (by repeat ((conv => arg 1; whnf); (conv => arg 2; whnf); first | with_reducible exact .done | exact Fin.all _ | refine .cons (by repeat ((conv => arg 2; whnf); first | with_reducible exact .here | ((with_reducible refine Del.hereC ?_); rfl) | ((with_reducible refine Del.hereS ?_ ?_ ?_) <;> rfl) | exact .here | apply Del.there)) ?_ | refine .drop ?_)))⟩
  · rintro E L ⟨s0, s1, s5, s15, hL⟩
    refine gc_imp hL ?_
    refine gc_slot 0 _ ?_ s0
    refine gc_slot 1 _ ?_ s1
    refine gc_slot 5 _ ?_ s5
    refine gc_slot 15 _ ?_ s15
    clear hL s0 s1 s5 s15
    first | refine gc_dec rfl (fun c15 => ?_) (fun c15 => ?_) | refine gc_ndec rfl (fun c15 => ?_) (fun c15 => ?_) | refine gc_cond rfl (fun c15 => ?_) (fun c15 => ?_)
    · skip
      refine gc_seq ?_
      refine gc_region ?_
      refine g_ev (e_as) ?_
      refine g_nil ?_
      refine gc_ret ?_
      exact ret1 (v := .int .i64 2) (L1 := [blk bl T (pre ++ (e.cells ++ post)), e.own, setB kv (.bool true) bm sent clk, A]) rfl (by (conv => lhs; whnf); try rfl) ⟨none, 0, by unfold EndS.taken; rw [if_pos c15], by unfold EndS.taken; rw [if_pos c15]⟩ (fun _ h => h.fin (by repeat ((conv => arg 1; whnf); (conv => arg 2; whnf); first | with_reducible exact .done | exact Fin.all _ | refine .cons (by repeat ((conv => arg 2; whnf); first | with_reducible exact .here | ((with_reducible refine Del.hereC ?_); rfl) | ((with_reducible refine Del.hereS ?_ ?_ ?_) <;> rfl) | exact .here | apply Del.there)) ?_ | refine .drop ?_)))
    · skip
      refine gc_seq ?_
      refine gc_cut (fun E L => E 0 = .pointer (some ⟨bl, o, none⟩) ∧ E 1 = .pointer (some ⟨bl, pre.length, none⟩) ∧ E 5 = .pointer (some ⟨b5, 0, none⟩) ∧ E 43 = .bool (decide (e.bad3 f)) ∧ ∀ w, Sat B w L → Sat B w (blk bl T (pre ++ (e.cells ++ post)) :: e.own :: setB kv (.bool true) bm sent clk :: blk b5 43 (f.cells (.slice a f.data.length c)) :: A :: F)) ?_ ?_
      · skip
        refine gc_draw (D := []) (fin := none) (plan := [(true, 0), (true, 1), (true, 2), (true, 3), (true, 4), (true, 5), (true, 6), (true, 7), (true, 8), (true, 9), (true, 10), (true, 11), (true, 12), (true, 13), (true, 14), (true, 15), (true, 16), (true, 17), (true, 18), (true, 19), (true, 20), (true, 21), (true, 22), (true, 23), (true, 24), (true, 25), (true, 26), (true, 27), (true, 28), (true, 29), (true, 30), (true, 31)]) rfl (by kernel_rfl) (by kernel_rfl) rfl .nil ?_
        refine gp_ev rfl (e_mv) ?_
        refine gp_ev rfl (e_nc rfl) ?_
        refine gp_ev rfl (e_fa Try.underlying61 rfl rfl Try.sizeOf4) ?_
        refine gp_ev rfl (e_ldm 3 Try.underlying4 rfl (by repeat ((conv => arg 2; whnf); first | with_reducible exact .here | ((with_reducible refine Del.hereC ?_); rfl) | ((with_reducible refine Del.hereS ?_ ?_ ?_) <;> rfl) | exact .here | apply Del.there)) rfl) ?_
        refine gp_ev rfl (e_mv) ?_
        first | refine gp_dec 48 rfl (fun c48 => ?_) (fun c48 => ?_) | refine gp_ndec 48 rfl (fun c48 => ?_) (fun c48 => ?_) | refine gp_bool 48 rfl (fun c48 => ?_) (fun c48 => ?_)
        · skip
          refine gp_ev rfl (e_fa Try.underlying43 rfl rfl Try.sizeOf23) ?_
          refine gp_ev rfl (e_ld Try.underlying23 rfl (by repeat ((conv => arg 2; whnf); first | with_reducible exact .here | ((with_reducible refine Del.hereC ?_); rfl) | ((with_reducible refine Del.hereS ?_ ?_ ?_) <;> rfl) | exact .here | apply Del.there)) rfl) ?_
          refine gp_ev rfl (e_mv) ?_
          refine gp_ev rfl (e_nc rfl) ?_
          refine gp_ev rfl (e_fa Try.underlying61 rfl rfl Try.sizeOf23) ?_
          refine gp_ev rfl (e_ldm 1 Try.underlying23 rfl (by repeat ((conv => arg 2; whnf); first | with_reducible exact .here | ((with_reducible refine Del.hereC ?_); rfl) | ((with_reducible refine Del.hereS ?_ ?_ ?_) <;> rfl) | exact .here | apply Del.there)) rfl) ?_
          refine gp_ev rfl (e_lt rfl rfl) ?_
          refine gp_ev rfl (e_mv) ?_
          first | refine gp_dec 56 rfl (fun c56 => ?_) (fun c56 => ?_) | refine gp_ndec 56 rfl (fun c56 => ?_) (fun c56 => ?_) | refine gp_bool 56 rfl (fun c56 => ?_) (fun c56 => ?_)
          · skip
            refine gp_not rfl ?_
            refine gp_not rfl ?_
            refine gp_not rfl ?_
            refine gp_not rfl ?_
            refine gp_not rfl ?_
            refine gp_not rfl ?_
            refine gp_not rfl ?_
            refine gp_not rfl ?_
            refine gp_not rfl ?_
            refine gp_not rfl ?_
            refine gp_not rfl ?_
            refine gp_not rfl ?_
            refine gp_not rfl ?_
            refine gp_not rfl ?_
            refine gp_not rfl ?_
            refine gp_not rfl ?_
            refine gp_ev rfl (e_pk rfl) ?_
            refine gp_ev rfl (e_pk rfl) ?_
            refine gp_ev rfl (e_as) ?_
            refine gp_nil ?_
            exact ⟨(by (conv => lhs; whnf); try first | rfl | (refine congrArg Value.bool ?_; simp_all) | simp_all), (by (conv => lhs; whnf); try first | rfl | (refine congrArg Value.bool ?_; simp_all) | simp_all), (by (conv => lhs; whnf); try first | rfl | (refine congrArg Value.bool ?_; simp_all) | simp_all), (by (conv => lhs; whnf); refine congrArg Value.bool ?_; rw [Bool.eq_iff_iff, decide_eq_true_iff]; clear hr; unfold EndS.bad3; first | (simp_all; done) | (simp_all; omega) | (simp; omega)), (fun _ h => h.fin (L1 := [blk bl T (pre ++ (e.cells ++ post)), e.own, setB kv (.bool true) bm sent clk, blk b5 43 (f.cells (.slice a f.data.length c)), A]) (F := F) (by repeat ((conv => arg 1; whnf); (conv => arg 2; whnf); first | with_reducible exact .done | exact Fin.all _ | refine .cons (by repeat ((conv => arg 2; whnf); first | with_reducible exact .here | ((with_reducible refine Del.hereC ?_); rfl) | ((with_reducible refine Del.hereS ?_ ?_ ?_) <;> rfl) | exact .here | apply Del.there)) ?_ | refine .drop ?_)))⟩
          · skip
            refine gp_ev rfl (e_fa Try.underlying43 rfl rfl Try.sizeOf23) ?_
            refine gp_ev rfl (e_ld Try.underlying23 rfl (by repeat ((conv => arg 2; whnf); first | with_reducible exact .here | ((with_reducible refine Del.hereC ?_); rfl) | ((with_reducible refine Del.hereS ?_ ?_ ?_) <;> rfl) | exact .here | apply Del.there)) rfl) ?_
            refine gp_ev rfl (e_mv) ?_
            refine gp_ev rfl (e_nc rfl) ?_
            refine gp_ev rfl (e_fa Try.underlying61 rfl rfl Try.sizeOf23) ?_
            refine gp_ev rfl (e_ldm 1 Try.underlying23 rfl (by repeat ((conv => arg 2; whnf); first | with_reducible exact .here | ((with_reducible refine Del.hereC ?_); rfl) | ((with_reducible refine Del.hereS ?_ ?_ ?_) <;> rfl) | exact .here | apply Del.there)) rfl) ?_
            refine gp_ev rfl (e_eq rfl rfl) ?_
            refine gp_ev rfl (e_mv) ?_
            first | refine gp_dec 64 rfl (fun c64 => ?_) (fun c64 => ?_) | refine gp_ndec 64 rfl (fun c64 => ?_) (fun c64 => ?_) | refine gp_bool 64 rfl (fun c64 => ?_) (fun c64 => ?_)
            · skip
              refine gp_ev rfl (e_fa Try.underlying43 rfl rfl Try.sizeOf23) ?_
              refine gp_ev rfl (e_ld Try.underlying23 rfl (by repeat ((conv => arg 2; whnf); first | with_reducible exact .here | ((with_reducible refine Del.hereC ?_); rfl) | ((with_reducible refine Del.hereS ?_ ?_ ?_) <;> rfl) | exact .here | apply Del.there)) rfl) ?_
              refine gp_ev rfl (e_mv) ?_
              refine gp_ev rfl (e_nc rfl) ?_
              refine gp_ev rfl (e_fa Try.underlying61 rfl rfl Try.sizeOf23) ?_
              refine gp_ev rfl (e_ldm 2 Try.underlying23 rfl (by repeat ((conv => arg 2; whnf); first | with_reducible exact .here | ((with_reducible refine Del.hereC ?_); rfl) | ((with_reducible refine Del.hereS ?_ ?_ ?_) <;> rfl) | exact .here | apply Del.there)) rfl) ?_
              refine gp_ev rfl (e_le rfl rfl) ?_
              refine gp_ev rfl (e_pk rfl) ?_
              refine gp_ev rfl (e_pk rfl) ?_
              refine gp_ev rfl (e_pk rfl) ?_
              refine gp_ev rfl (e_as) ?_
              refine gp_nil ?_
              exact ⟨(by (conv => lhs; whnf); try first | rfl | (refine congrArg Value.bool ?_; simp_all) | simp_all), (by (conv => lhs; whnf); try first | rfl | (refine congrArg Value.bool ?_; simp_all) | simp_all), (by (conv => lhs; whnf); try first | rfl | (refine congrArg Value.bool ?_; simp_all) | simp_all), (by (conv => lhs; whnf); refine congrArg Value.bool ?_; rw [Bool.eq_iff_iff, decide_eq_true_iff]; clear hr; unfold EndS.bad3; first | (simp_all; done) | (simp_all; omega) | (simp; omega)), (fun _ h => h.fin (L1 := [blk bl T (pre ++ (e.cells ++ post)), e.own, setB kv (.bool true) bm sent clk, blk b5 43 (f.cells (.slice a f.data.length c)), A]) (F := F) (by repeat ((conv => arg 1; whnf); (conv => arg 2; whnf); first | with_reducible exact .done | exact Fin.all _ | refine .cons (by repeat ((conv => arg 2; whnf); first | with_reducible exact .here | ((with_reducible refine Del.hereC ?_); rfl) | ((with_reducible refine Del.hereS ?_ ?_ ?_) <;> rfl) | exact .here | apply Del.there)) ?_ | refine .drop ?_)))⟩
            · skip
              refine gp_not rfl ?_
              refine gp_not rfl ?_
              refine gp_not rfl ?_
              refine gp_not rfl ?_
              refine gp_not rfl ?_
              refine gp_not rfl ?_
              refine gp_not rfl ?_
              refine gp_ev rfl (e_pk rfl) ?_
              refine gp_ev rfl (e_pk rfl) ?_
              refine gp_ev rfl (e_pk rfl) ?_
              refine gp_ev rfl (e_as) ?_
              refine gp_nil ?_
              exact ⟨(by (conv => lhs; whnf); try first | rfl | (refine congrArg Value.bool ?_; simp_all) | simp_all), (by (conv => lhs; whnf); try first | rfl | (refine congrArg Value.bool ?_; simp_all) | simp_all), (by (conv => lhs; whnf); try first | rfl | (refine congrArg Value.bool ?_; simp_all) | simp_all), (by (conv => lhs; whnf); refine congrArg Value.bool ?_; rw [Bool.eq_iff_iff, decide_eq_true_iff]; clear hr; unfold EndS.bad3; first | (simp_all; done) | (simp_all; omega) | (simp; omega)), (fun _ h => h.fin (L1 := [blk bl T (pre ++ (e.cells ++ post)), e.own, setB kv (.bool true) bm sent clk, blk b5 43 (f.cells (.slice a f.data.length c)), A]) (F := F) (by repeat ((conv => arg 1; whnf); (conv => arg 2; whnf); first | with_reducible exact .done | exact Fin.all _ | refine .cons (by repeat ((conv => arg 2; whnf); first | with_reducible exact .here | ((with_reducible refine Del.hereC ?_); rfl) | ((with_reducible refine Del.hereS ?_ ?_ ?_) <;> rfl) | exact .here | apply Del.there)) ?_ | refine .drop ?_)))⟩
        · skip
          refine gp_not rfl ?_
          refine gp_not rfl ?_
          refine gp_not rfl ?_
          refine gp_not rfl ?_
          refine gp_not rfl ?_
          refine gp_not rfl ?_
          refine gp_not rfl ?_
          refine gp_not rfl ?_
          refine gp_not rfl ?_
          refine gp_not rfl ?_
          refine gp_not rfl ?_
          refine gp_not rfl ?_
          refine gp_not rfl ?_
          refine gp_not rfl ?_
          refine gp_not rfl ?_
          refine gp_not rfl ?_
          refine gp_not rfl ?_
          refine gp_not rfl ?_
          refine gp_not rfl ?_
          refine gp_not rfl ?_
          refine gp_not rfl ?_
          refine gp_not rfl ?_
          refine gp_not rfl ?_
          refine gp_not rfl ?_
          refine gp_not rfl ?_
          refine gp_ev rfl (e_pk rfl) ?_
          refine gp_ev rfl (e_as) ?_
          refine gp_nil ?_
          exact ⟨(by (conv => lhs; whnf); try first | rfl | (refine congrArg Value.bool ?_; simp_all) | simp_all), (by (conv => lhs; whnf); try first | rfl | (refine congrArg Value.bool ?_; simp_all) | simp_all), (by (conv => lhs; whnf); try first | rfl | (refine congrArg Value.bool ?_; simp_all) | simp_all), (by (conv => lhs; whnf); refine congrArg Value.bool ?_; rw [Bool.eq_iff_iff, decide_eq_true_iff]; clear hr; unfold EndS.bad3; first | (simp_all; done) | (simp_all; omega) | (simp; omega)), (fun _ h => h.fin (L1 := [blk bl T (pre ++ (e.cells ++ post)), e.own, setB kv (.bool true) bm sent clk, blk b5 43 (f.cells (.slice a f.data.length c)), A]) (F := F) (by repeat ((conv => arg 1; whnf); (conv => arg 2; whnf); first | with_reducible exact .done | exact Fin.all _ | refine .cons (by repeat ((conv => arg 2; whnf); first | with_reducible exact .here | ((with_reducible refine Del.hereC ?_); rfl) | ((with_reducible refine Del.hereS ?_ ?_ ?_) <;> rfl) | exact .here | apply Del.there)) ?_ | refine .drop ?_)))⟩
      · rintro E L ⟨s0, s1, s5, s43, hL⟩
        refine gc_imp hL ?_
        refine gc_slot 0 _ ?_ s0
        refine gc_slot 1 _ ?_ s1
        refine gc_slot 5 _ ?_ s5
        refine gc_slot 43 _ ?_ s43
        clear hL s0 s1 s5 s43
        first | refine gc_dec rfl (fun c43 => ?_) (fun c43 => ?_) | refine gc_ndec rfl (fun c43 => ?_) (fun c43 => ?_) | refine gc_cond rfl (fun c43 => ?_) (fun c43 => ?_)
        · skip
          refine gc_seq ?_
          refine gc_region ?_
          refine g_ev (e_as) ?_
          refine g_nil ?_
          refine gc_ret ?_
          exact ret1 (v := .int .i64 3) (L1 := [blk bl T (pre ++ (e.cells ++ post)), e.own, setB kv (.bool true) bm sent clk, A]) rfl (by (conv => lhs; whnf); try rfl) ⟨none, 0, by unfold EndS.taken; rw [if_neg c15, if_pos c43], by unfold EndS.taken; rw [if_neg c15, if_pos c43]⟩ (fun _ h => h.fin (by repeat ((conv => arg 1; whnf); (conv => arg 2; whnf); first | with_reducible exact .done | exact Fin.all _ | refine .cons (by repeat ((conv => arg 2; whnf); first | with_reducible exact .here | ((with_reducible refine Del.hereC ?_); rfl) | ((with_reducible refine Del.hereS ?_ ?_ ?_) <;> rfl) | exact .here | apply Del.there)) ?_ | refine .drop ?_)))
        · skip
          refine gc_skip ?_
          refine gc_seq ?_
          refine gc_draw (D := [blk bl T (pre ++ (e.cells ++ post))]) (fin := none) (plan := [(true, 0), (true, 1), (true, 2), (true, 3), (true, 4), (true, 5), (true, 6), (true, 7), (true, 8), (false, 9), (true, 10), (true, 11), (false, 12), (true, 13), (true, 14), (false, 15)]) rfl (by kernel_rfl) (by kernel_rfl) rfl (.cons (by repeat ((conv => arg 2; whnf); first | with_reducible exact .here | ((with_reducible refine Del.hereC ?_); rfl) | ((with_reducible refine Del.hereS ?_ ?_ ?_) <;> rfl) | exact .here | apply Del.there)) .nil) ?_
          refine gp_ev rfl (e_mv) ?_
          refine gp_ev rfl (e_mv) ?_
          refine gp_ev rfl (e_mv) ?_
          refine gp_ev rfl (e_fa Try.underlying43 rfl rfl Try.sizeOf23) ?_
          refine gp_ev rfl (e_ld Try.underlying23 rfl (by repeat ((conv => arg 2; whnf); first | with_reducible exact .here | ((with_reducible refine Del.hereC ?_); rfl) | ((with_reducible refine Del.hereS ?_ ?_ ?_) <;> rfl) | exact .here | apply Del.there)) rfl) ?_
          refine gp_ev rfl (e_fa Try.underlying43 rfl rfl Try.sizeOf23) ?_
          refine gp_ev rfl (e_ld Try.underlying23 rfl (by repeat ((conv => arg 2; whnf); first | with_reducible exact .here | ((with_reducible refine Del.hereC ?_); rfl) | ((with_reducible refine Del.hereS ?_ ?_ ?_) <;> rfl) | exact .here | apply Del.there)) rfl) ?_
          refine gp_ev rfl (e_nc rfl) ?_
          refine gp_ev rfl (e_fa Try.underlying61 rfl rfl Try.sizeOf4) ?_
          refine gp_eff rfl (s_stm 3 Try.sizeOf4 rfl (by repeat ((conv => arg 3; whnf); first | with_reducible exact .here | apply Turn.there))) ?_
          rintro _ _ ⟨rfl, rfl⟩
          refine gp_ev rfl (e_nc rfl) ?_
          refine gp_ev rfl (e_fa Try.underlying61 rfl rfl Try.sizeOf23) ?_
          refine gp_eff rfl (s_stm 1 Try.sizeOf23 rfl (by repeat ((conv => arg 3; whnf); first | with_reducible exact .here | apply Turn.there))) ?_
          rintro _ _ ⟨rfl, rfl⟩
          refine gp_ev rfl (e_nc rfl) ?_
          refine gp_ev rfl (e_fa Try.underlying61 rfl rfl Try.sizeOf23) ?_
          refine gp_eff rfl (s_stm 2 Try.sizeOf23 rfl (by repeat ((conv => arg 3; whnf); first | with_reducible exact .here | apply Turn.there))) ?_
          rintro _ _ ⟨rfl, rfl⟩
          refine gp_nil ?_
          refine gc_seq ?_
          refine gc_draw (D := [blk bl T (pre ++ (({ e with some_ := true, sess := f.sess, num := f.num } : EndS).cells ++ post)), A]) (fin := none) (plan := [(true, 0), (true, 1), (true, 2), (true, 3), (true, 5), (true, 6), (false, 4), (true, 7), (true, 8), (false, 9), (true, 10), (true, 11), (false, 12)]) rfl (by kernel_rfl) (by kernel_rfl) rfl (.cons (by repeat ((conv => arg 2; whnf); first | with_reducible exact .here | ((with_reducible refine Del.hereC ?_); rfl) | ((with_reducible refine Del.hereS ?_ ?_ ?_) <;> rfl) | exact .here | apply Del.there)) (.cons (by repeat ((conv => arg 2; whnf); first | with_reducible exact .here | ((with_reducible refine Del.hereC ?_); rfl) | ((with_reducible refine Del.hereS ?_ ?_ ?_) <;> rfl) | exact .here | apply Del.there)) (.nil))) ?_
          refine gp_ev rfl (e_mv) ?_
          refine gp_ev rfl (e_mv) ?_
          refine gp_ev rfl (e_fa Try.underlying43 rfl rfl Try.sizeOf41) ?_
          refine gp_ev rfl (e_ld Try.underlying41 rfl (by repeat ((conv => arg 2; whnf); first | with_reducible exact .here | ((with_reducible refine Del.hereC ?_); rfl) | ((with_reducible refine Del.hereS ?_ ?_ ?_) <;> rfl) | exact .here | apply Del.there)) rfl) ?_
          refine gp_ev rfl (e_fa Try.underlying43 rfl rfl Try.sizeOf23) ?_
          refine gp_ev rfl (e_ld Try.underlying23 rfl (by repeat ((conv => arg 2; whnf); first | with_reducible exact .here | ((with_reducible refine Del.hereC ?_); rfl) | ((with_reducible refine Del.hereS ?_ ?_ ?_) <;> rfl) | exact .here | apply Del.there)) rfl) ?_
          refine gp_eff rfl (s_call (clone_t hr hm) (.cons (by repeat ((conv => arg 2; whnf); first | with_reducible exact .here | ((with_reducible refine Del.hereC ?_); rfl) | ((with_reducible refine Del.hereS ?_ ?_ ?_) <;> rfl) | exact .here | apply Del.there)) (.nil))) ?_
          rintro _ _ ⟨_, ⟨a2, c2, rfl, rfl, hn⟩, rfl⟩
          refine gp_ev rfl (e_nc rfl) ?_
          refine gp_ev rfl (e_fa Try.underlying61 rfl rfl Try.sizeOf41) ?_
          refine gp_eff rfl (s_stm 4 Try.sizeOf41 rfl (by repeat ((conv => arg 3; whnf); first | with_reducible exact .here | apply Turn.there))) ?_
          rintro _ _ ⟨rfl, rfl⟩
          refine gp_ev rfl (e_nc rfl) ?_
          refine gp_ev rfl (e_fa Try.underlying61 rfl rfl Try.sizeOf23) ?_
          refine gp_eff rfl (s_stm 5 Try.sizeOf23 rfl (by repeat ((conv => arg 3; whnf); first | with_reducible exact .here | apply Turn.there))) ?_
          rintro _ _ ⟨rfl, rfl⟩
          refine gp_nil ?_
          refine gc_seq ?_
          refine gc_region ?_
          refine g_ev (e_as) ?_
          refine g_nil ?_
          refine gc_ret ?_
          have hx : e.taken f ses (sent.map (·.1)) a2 c2 = (0, (e.takenE f a2 c2)) := by unfold EndS.taken; rw [if_neg c15, if_neg c43]
          exact ret1 (v := .int .i64 0) (L1 := [blk bl T (pre ++ ((e.takenE f a2 c2).cells ++ post)), (e.takenE f a2 c2).own, setB kv (.bool true) bm sent clk, A]) rfl (by (conv => lhs; whnf); try rfl) ⟨a2, c2, by rw [hx], by rw [hx]⟩ (fun _ h => h.fin (by repeat ((conv => arg 1; whnf); (conv => arg 2; whnf); first | with_reducible exact .done | exact Fin.all _ | refine .cons (by repeat ((conv => arg 2; whnf); first | with_reducible exact .here | ((with_reducible refine Del.hereC ?_); rfl) | ((with_reducible refine Del.hereS ?_ ?_ ?_) <;> rfl) | exact .here | apply Del.there)) ?_ | refine .drop ?_)))

end Go.Proofs.Ythjimddhnlmlhaa
