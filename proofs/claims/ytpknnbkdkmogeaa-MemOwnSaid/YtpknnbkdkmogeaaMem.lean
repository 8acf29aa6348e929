/- What each function under MemOwn computes, one theorem each; no conditions. -/
import Derived.Test.YtpknnbkdkmogeaaVc
import Derived.Test.YtpknnbkdkmogeaaProg
import Derived.KernelRfl
namespace Go.Proofs.Ytpknnbkdkmogeaa
open Go.Vc
theorem pl69 : plOK Try.prog 69 #[(0, 1), (1, 1), (2, 1), (3, 1), (4, 1)] := by intro fs h w; rw [Try.underlying69] at h; cases h; simp

theorem info5 : Try.prog.info? 5 = some Try.t5 := by kernel_rfl
structure MemS where
  bs : List UInt8
  off : Bool
  armed : Bool
  left : Int
  writes : Int
  nl : Bool
def b01 (b : Bool) : Int := bif b then 1 else 0
def memM (b : Nat) (s : MemS) (v : Value) : List HProp := [blk b 69 [v, .int .u32 (b01 s.off), .bool s.armed, .int .i64 s.left, .int .i64 s.writes], sown 5 1 v s.bs.length (bv s.bs), pr (isNil v = s.nl)]
def memP (b : Nat) (s : MemS) : HProp := exL (memM b s)
theorem made_bytes (m : Nat) (z : Array Value) (hz : #[.int .u8 0] = z) : (madeCells z (m * 1)).toList = bv (List.replicate m 0) := by subst hz; simp [madeCells, bv, Nat.mod_one]; exact (List.map_const' (l := List.range m)).trans (by simp)
theorem b01_ne (b : Bool) : (!decide (b01 b = 0)) = b := by cases b <;> rfl

theorem mark_t (i k : Int) : Tri Try.prog 27 #[.int .i64 i, .int .i64 k] [] (isR (.int .u8 (IntKind.u8.wrap (IntKind.i64.wrap (IntKind.i64.wrap (IntKind.i64.wrap (17 * i) + IntKind.i64.wrap (5 * k)) + 3)))) []) := by
  refine tri_of Try.call27 Try.func27 rfl fun B F => ?_
  refine gc_seq ?_
  refine gc_region ?_
  refine g_ev (e_as) ?_
  refine g_nil ?_
  refine gc_seq ?_
  refine gc_region ?_
  refine g_ev (e_mv) ?_
  refine g_ev (e_mulw rfl rfl) ?_
  refine g_ev (e_mv) ?_
  refine g_ev (e_mulw rfl rfl) ?_
  refine g_ev (e_addw rfl rfl) ?_
  refine g_ev (e_addw rfl rfl) ?_
  refine g_ev (e_cv Try.underlying3 Try.underlying5 rfl) ?_
  refine g_ev (e_as) ?_
  refine g_nil ?_
  refine gc_ret ?_
  exact (ret1 rfl (by (conv => lhs; whnf); try rfl) ⟨rfl, rfl⟩ (fun _ h => h.fin (by repeat ((conv => arg 1; whnf); (conv => arg 2; whnf); first | with_reducible exact .done | exact Fin.all _ | refine .cons (by repeat ((conv => arg 2; whnf); first | with_reducible exact .here | ((with_reducible refine Del.hereC ?_); rfl) | ((with_reducible refine Del.hereS ?_ ?_ ?_) <;> rfl) | exact .here | apply Del.there)) ?_ | refine .drop ?_))))

theorem b32_t (b : Bool) : Tri Try.prog 44 #[.bool b] [] (isR (.int .u32 (b01 b)) []) := by
  refine tri_of Try.call44 Try.func44 rfl fun B F => ?_
  refine gc_seq ?_
  refine gc_region ?_
  refine g_ev (e_as) ?_
  refine g_nil ?_
  refine gc_seq ?_
  refine gc_seq ?_
  refine gc_region ?_
  refine g_ev (e_mv) ?_
  refine g_nil ?_
  first | refine gc_dec rfl (fun c3 => ?_) (fun c3 => ?_) | refine gc_ndec rfl (fun c3 => ?_) (fun c3 => ?_) | refine gc_cond rfl (fun c3 => ?_) (fun c3 => ?_)
  · skip
    refine gc_seq ?_
    refine gc_region ?_
    refine g_ev (e_as) ?_
    refine g_nil ?_
    refine gc_ret ?_
    subst c3
    exact (ret1 rfl (by (conv => lhs; whnf); try rfl) ⟨rfl, rfl⟩ (fun _ h => h.fin (by repeat ((conv => arg 1; whnf); (conv => arg 2; whnf); first | with_reducible exact .done | exact Fin.all _ | refine .cons (by repeat ((conv => arg 2; whnf); first | with_reducible exact .here | ((with_reducible refine Del.hereC ?_); rfl) | ((with_reducible refine Del.hereS ?_ ?_ ?_) <;> rfl) | exact .here | apply Del.there)) ?_ | refine .drop ?_))))
  · skip
    refine gc_skip ?_
    refine gc_seq ?_
    refine gc_region ?_
    refine g_ev (e_as) ?_
    refine g_nil ?_
    refine gc_ret ?_
    subst c3
    exact (ret1 rfl (by (conv => lhs; whnf); try rfl) ⟨rfl, rfl⟩ (fun _ h => h.fin (by repeat ((conv => arg 1; whnf); (conv => arg 2; whnf); first | with_reducible exact .done | exact Fin.all _ | refine .cons (by repeat ((conv => arg 2; whnf); first | with_reducible exact .here | ((with_reducible refine Del.hereC ?_); rfl) | ((with_reducible refine Del.hereS ?_ ?_ ?_) <;> rfl) | exact .here | apply Del.there)) ?_ | refine .drop ?_))))

theorem bload_t {b off T : Nat} {cs : List Value} {a : Int} (h : cs[off]? = some (.int .u32 a)) : Tri Try.prog 36 #[.pointer (some ⟨b, off, none⟩)] [blk b T cs] (isR (.bool (!decide (a = 0))) [blk b T cs]) := by
  refine tri_of Try.call36 Try.func36 rfl fun B F => ?_
  refine gc_seq ?_
  refine gc_region ?_
  refine g_ev (e_as) ?_
  refine g_nil ?_
  refine gc_seq ?_
  refine gc_region ?_
  refine g_ev (e_mv) ?_
  refine g_ev (e_nc rfl) ?_
  refine g_ev (e_fa Try.underlying67 rfl rfl Try.sizeOf35) ?_
  refine g_eff (s_call ((t_aload Try.func42 (by kernel_rfl) (by kernel_rfl) (by kernel_rfl) .u32 (by kernel_rfl)) h) (.cons (by repeat ((conv => arg 2; whnf); first | with_reducible exact .here | ((with_reducible refine Del.hereC ?_); rfl) | ((with_reducible refine Del.hereS ?_ ?_ ?_) <;> rfl) | exact .here | apply Del.there)) (.nil))) ?_
  rintro _ _ ⟨_, ⟨rfl, rfl⟩, rfl⟩
  refine g_ev (e_ne rfl rfl) ?_
  refine g_ev (e_as) ?_
  refine g_nil ?_
  refine gc_ret ?_
  exact (ret1 rfl (by (conv => lhs; whnf); try rfl) ⟨rfl, rfl⟩ (fun _ h => h.fin (by repeat ((conv => arg 1; whnf); (conv => arg 2; whnf); first | with_reducible exact .done | exact Fin.all _ | refine .cons (by repeat ((conv => arg 2; whnf); first | with_reducible exact .here | ((with_reducible refine Del.hereC ?_); rfl) | ((with_reducible refine Del.hereS ?_ ?_ ?_) <;> rfl) | exact .here | apply Del.there)) ?_ | refine .drop ?_))))

theorem bstore_t {b off T : Nat} {cs : List Value} {u : Value} (x : Bool) (h : cs[off]? = some u) : Tri Try.prog 39 #[.pointer (some ⟨b, off, none⟩), .bool x] [blk b T cs] (isR (.tuple #[]) [blk b T (cs.set off (.int .u32 (b01 x)))]) := by
  refine tri_of Try.call39 Try.func39 rfl fun B F => ?_
  refine gc_draw (fin := none) (plan := [(true, 0), (true, 1), (true, 2), (true, 3), (false, 4), (false, 5)]) rfl (by kernel_rfl) (by kernel_rfl) rfl (.cons .here .nil) ?_
  refine gp_ev rfl (e_mv) ?_
  refine gp_ev rfl (e_nc rfl) ?_
  refine gp_ev rfl (e_fa Try.underlying67 rfl rfl Try.sizeOf35) ?_
  refine gp_ev rfl (e_mv) ?_
  refine gp_eff rfl (s_call (b32_t x) .nil) ?_
  rintro _ _ ⟨_, ⟨rfl, rfl⟩, rfl⟩
  refine gp_eff rfl (s_call ((t_astore Try.func43 (by kernel_rfl) (by kernel_rfl) (by kernel_rfl) (by kernel_rfl)) h) (.cons (by repeat ((conv => arg 2; whnf); first | with_reducible exact .here | ((with_reducible refine Del.hereC ?_); rfl) | ((with_reducible refine Del.hereS ?_ ?_ ?_) <;> rfl) | exact .here | apply Del.there)) (.nil))) ?_
  rintro _ _ ⟨_, ⟨rfl, rfl⟩, rfl⟩
  refine gp_nil ?_
  exact (end0 rfl ⟨rfl, rfl⟩ (fun _ h => h.fin (by repeat ((conv => arg 1; whnf); (conv => arg 2; whnf); first | with_reducible exact .done | exact Fin.all _ | refine .cons (by repeat ((conv => arg 2; whnf); first | with_reducible exact .here | ((with_reducible refine Del.hereC ?_); rfl) | ((with_reducible refine Del.hereS ?_ ?_ ?_) <;> rfl) | exact .here | apply Del.there)) ?_ | refine .drop ?_))))

theorem off_t (b : Nat) (s : MemS) : Tri Try.prog 16 #[.pointer (some ⟨b, 0, none⟩)] [memP b s] (isR (.bool s.off) [memP b s]) := by
  refine tri_of Try.call16 Try.func16 rfl fun B F => ?_
  refine gc_open (memM b s) .here (fun _ h => h) (fun bsl => ?_)
  refine gc_seq ?_
  refine gc_region ?_
  refine g_ev (e_as) ?_
  refine g_nil ?_
  refine gc_seq ?_
  refine gc_region ?_
  refine g_ev (e_mv) ?_
  refine g_ev (e_nep Try.underlying26 rfl rfl) ?_
  refine g_ev (e_mv) ?_
  refine g_ev (e_mv) ?_
  refine g_ev (e_nc rfl) ?_
  refine g_ev (e_fa Try.underlying69 rfl rfl Try.sizeOf67) ?_
  refine g_eff (s_call (bload_t (b := b) (off := 0 + 1) rfl) (.cons (by repeat ((conv => arg 2; whnf); first | with_reducible exact .here | ((with_reducible refine Del.hereC ?_); rfl) | ((with_reducible refine Del.hereS ?_ ?_ ?_) <;> rfl) | exact .here | apply Del.there)) (.nil))) ?_
  rintro _ _ ⟨_, ⟨rfl, rfl⟩, rfl⟩
  refine g_ev (e_pk rfl) ?_
  refine g_ev (e_as) ?_
  refine g_nil ?_
  refine gc_ret ?_
  exact (ret1 rfl (by show Value.bool _ = _; rw [b01_ne]) ⟨rfl, rfl⟩ (fun _ h => h.fin (.fold (M := memM b s _) (fun _ h => ⟨_, h⟩) (by repeat ((conv => arg 1; whnf); (conv => arg 2; whnf); first | with_reducible exact .done | exact Fin.all _ | refine .cons (by repeat ((conv => arg 2; whnf); first | with_reducible exact .here | ((with_reducible refine Del.hereC ?_); rfl) | ((with_reducible refine Del.hereS ?_ ?_ ?_) <;> rfl) | exact .here | apply Del.there)) ?_ | refine .drop ?_)))))

theorem writes_t (b : Nat) (s : MemS) : Tri Try.prog 15 #[.pointer (some ⟨b, 0, none⟩)] [memP b s] (isR (.int .i64 s.writes) [memP b s]) := by
  refine tri_of Try.call15 Try.func15 rfl fun B F => ?_
  refine gc_open (memM b s) .here (fun _ h => h) (fun bsl => ?_)
  refine gc_seq ?_
  refine gc_region ?_
  refine g_ev (e_as) ?_
  refine g_nil ?_
  refine gc_seq ?_
  refine gc_seq ?_
  refine gc_region ?_
  refine g_ev (e_mv) ?_
  refine g_ev (e_eqp Try.underlying26 rfl rfl) ?_
  refine g_nil ?_
  refine gc_false ?_
  refine gc_skip ?_
  refine gc_seq ?_
  refine gc_region ?_
  refine g_ev (e_mv) ?_
  refine g_ev (e_nc rfl) ?_
  refine g_ev (e_fa Try.underlying69 rfl rfl Try.sizeOf3) ?_
  refine g_ev (e_ld Try.underlying3 rfl (by repeat ((conv => arg 2; whnf); first | with_reducible exact .here | ((with_reducible refine Del.hereC ?_); rfl) | ((with_reducible refine Del.hereS ?_ ?_ ?_) <;> rfl) | exact .here | apply Del.there)) rfl) ?_
  refine g_ev (e_as) ?_
  refine g_nil ?_
  refine gc_ret ?_
  exact (ret1 rfl (by (conv => lhs; whnf); try rfl) ⟨rfl, rfl⟩ (fun _ h => h.fin (.fold (M := memM b s _) (fun _ h => ⟨_, h⟩) (by repeat ((conv => arg 1; whnf); (conv => arg 2; whnf); first | with_reducible exact .done | exact Fin.all _ | refine .cons (by repeat ((conv => arg 2; whnf); first | with_reducible exact .here | ((with_reducible refine Del.hereC ?_); rfl) | ((with_reducible refine Del.hereS ?_ ?_ ?_) <;> rfl) | exact .here | apply Del.there)) ?_ | refine .drop ?_)))))

theorem size_t (b : Nat) (s : MemS) : Tri Try.prog 28 #[.pointer (some ⟨b, 0, none⟩)] [memP b s] (isR (.int .i64 (s.bs.length : Int)) [memP b s]) := by
  refine tri_of Try.call28 Try.func28 rfl fun B F => ?_
  refine gc_open (memM b s) .here (fun _ h => h) (fun bsl => ?_)
  refine gc_fact (φ := slV bsl s.bs.length) (fun w h => (h.rds (.there .here)).slv) fun ⟨sl, cp, hsl, hnl, hni⟩ => ?_
  subst hsl
  refine gc_seq ?_
  refine gc_region ?_
  refine g_ev (e_as) ?_
  refine g_nil ?_
  refine gc_seq ?_
  refine gc_seq ?_
  refine gc_region ?_
  refine g_ev (e_mv) ?_
  refine g_ev (e_eqp Try.underlying26 rfl rfl) ?_
  refine g_nil ?_
  refine gc_false ?_
  refine gc_skip ?_
  refine gc_seq ?_
  refine gc_region ?_
  refine g_ev (e_mv) ?_
  refine g_ev (e_nc rfl) ?_
  refine g_ev (e_fa Try.underlying69 rfl rfl Try.sizeOf22) ?_
  refine g_ev (e_ld Try.underlying22 rfl (by repeat ((conv => arg 2; whnf); first | with_reducible exact .here | ((with_reducible refine Del.hereC ?_); rfl) | ((with_reducible refine Del.hereS ?_ ?_ ?_) <;> rfl) | exact .here | apply Del.there)) rfl) ?_
  refine g_ev (e_len Try.underlying22 rfl) ?_
  refine g_ev (e_as) ?_
  refine g_nil ?_
  refine gc_ret ?_
  exact (ret1 rfl (by (conv => lhs; whnf); try rfl) ⟨rfl, rfl⟩ (fun _ h => h.fin (.fold (M := memM b s _) (fun _ h => ⟨_, h⟩) (by repeat ((conv => arg 1; whnf); (conv => arg 2; whnf); first | with_reducible exact .done | exact Fin.all _ | refine .cons (by repeat ((conv => arg 2; whnf); first | with_reducible exact .here | ((with_reducible refine Del.hereC ?_); rfl) | ((with_reducible refine Del.hereS ?_ ?_ ?_) <;> rfl) | exact .here | apply Del.there)) ?_ | refine .drop ?_)))))


def MemS.write (s : MemS) (at_ : Int) (c : UInt8) : Int × MemS :=
  if s.off = true then (70, s) else if at_ < 0 ∨ (s.bs.length : Int) ≤ at_ then (2, s) else if s.armed = true ∧ s.left = 0 then (70, { s with off := true })
  else (0, { s with left := if s.armed = true then IntKind.i64.wrap (s.left - 1) else s.left, bs := s.bs.set at_.toNat c, writes := IntKind.i64.wrap (s.writes + 1) })
def MemS.read (s : MemS) (at_ : Int) : Value :=
  if s.off = true then .tuple #[.int .u8 0, .int .i64 70] else if at_ < 0 ∨ (s.bs.length : Int) ≤ at_ then .tuple #[.int .u8 0, .int .i64 2] else .tuple #[.int .u8 ((s.bs.getD at_.toNat 0).toNat : Int), .int .i64 0]
def MemS.arm (s : MemS) (n : Int) : Int × MemS := if n < 0 then (2, s) else (0, { s with armed := true, left := n })
def MemS.on (s : MemS) : MemS := { s with off := false, armed := false }
def writeR (b : Nat) (r : Int × MemS) : Value → List HProp → Prop := isR (.int .i64 r.1) [memP b r.2]

theorem arm_t (b : Nat) (s : MemS) (n : Int) : Tri Try.prog 20 #[.pointer (some ⟨b, 0, none⟩), .int .i64 n] [memP b s] (writeR b (s.arm n)) := by
  refine tri_of Try.call20 Try.func20 rfl fun B F => ?_
  refine gc_open (memM b s) .here (fun _ h => h) (fun bsl => ?_)
  refine gc_seq ?_
  refine gc_region ?_
  refine g_ev (e_as) ?_
  refine g_nil ?_
  refine gc_seq ?_
  refine gc_block ?_
  refine gc_seq ?_
  refine gc_region ?_
  refine g_ev (e_mv) ?_
  refine g_ev (e_eqp Try.underlying26 rfl rfl) ?_
  refine g_ev (e_as) ?_
  refine g_nil ?_
  refine gc_false ?_
  refine gc_seq ?_
  refine gc_region ?_
  refine g_ev (e_mv) ?_
  refine g_ev (e_lt rfl rfl) ?_
  refine g_ev (e_as) ?_
  refine g_nil ?_
  first | refine gc_dec rfl (fun c8 => ?_) (fun c8 => ?_) | refine gc_ndec rfl (fun c8 => ?_) (fun c8 => ?_) | refine gc_cond rfl (fun c8 => ?_) (fun c8 => ?_)
  · skip
    refine gc_seq ?_
    refine gc_region ?_
    refine g_ev (e_as) ?_
    refine g_nil ?_
    refine gc_ret ?_
    exact (ret1 (L1 := [memP b s]) rfl (by (conv => lhs; whnf); try rfl) (by rw [MemS.arm, if_pos c8]; exact And.intro rfl rfl) (fun _ h => h.fin (.fold (M := memM b s _) (fun _ h => ⟨_, h⟩) (by repeat ((conv => arg 1; whnf); (conv => arg 2; whnf); first | with_reducible exact .done | exact Fin.all _ | refine .cons (by repeat ((conv => arg 2; whnf); first | with_reducible exact .here | ((with_reducible refine Del.hereC ?_); rfl) | ((with_reducible refine Del.hereS ?_ ?_ ?_) <;> rfl) | exact .here | apply Del.there)) ?_ | refine .drop ?_)))))
  · skip
    refine gc_skip ?_
    refine gc_seq ?_
    refine gc_region ?_
    refine g_ev (e_mv) ?_
    refine g_ev (e_mv) ?_
    refine g_ev (e_mv) ?_
    refine g_ev (e_nc rfl) ?_
    refine g_ev (e_fa Try.underlying69 rfl rfl Try.sizeOf4) ?_
    refine g_eff (s_st Try.sizeOf4 rfl (by repeat ((conv => arg 3; whnf); first | with_reducible exact .here | apply Turn.there))) ?_
    rintro _ _ ⟨rfl, rfl⟩
    refine g_ev (e_nc rfl) ?_
    refine g_ev (e_fa Try.underlying69 rfl rfl Try.sizeOf3) ?_
    refine g_eff (s_st Try.sizeOf3 rfl (by repeat ((conv => arg 3; whnf); first | with_reducible exact .here | apply Turn.there))) ?_
    rintro _ _ ⟨rfl, rfl⟩
    refine g_nil ?_
    refine gc_seq ?_
    refine gc_region ?_
    refine g_ev (e_as) ?_
    refine g_nil ?_
    refine gc_ret ?_
    exact (ret1 (L1 := [memP b { s with armed := true, left := n }]) rfl (by (conv => lhs; whnf); try rfl) (by rw [MemS.arm, if_neg c8]; exact And.intro rfl rfl) (fun _ h => h.fin (.fold (M := memM b { s with armed := true, left := n } _) (fun _ h => ⟨_, h⟩) (by repeat ((conv => arg 1; whnf); (conv => arg 2; whnf); first | with_reducible exact .done | exact Fin.all _ | refine .cons (by repeat ((conv => arg 2; whnf); first | with_reducible exact .here | ((with_reducible refine Del.hereC ?_); rfl) | ((with_reducible refine Del.hereS ?_ ?_ ?_) <;> rfl) | exact .here | apply Del.there)) ?_ | refine .drop ?_)))))

theorem on_t (b : Nat) (s : MemS) : Tri Try.prog 22 #[.pointer (some ⟨b, 0, none⟩)] [memP b s] (isR (.tuple #[]) [memP b s.on]) := by
  refine tri_of Try.call22 Try.func22 rfl fun B F => ?_
  refine gc_open (memM b s) .here (fun _ h => h) (fun bsl => ?_)
  refine gc_seq ?_
  refine gc_region ?_
  refine g_ev (e_mv) ?_
  refine g_ev (e_nep Try.underlying26 rfl rfl) ?_
  refine g_nil ?_
  refine gc_true ?_
  refine gc_seq ?_
  refine gc_region ?_
  refine g_ev (e_mv) ?_
  refine g_ev (e_nc rfl) ?_
  refine g_ev (e_fa Try.underlying69 rfl rfl Try.sizeOf4) ?_
  refine g_eff (s_st Try.sizeOf4 rfl (by repeat ((conv => arg 3; whnf); first | with_reducible exact .here | apply Turn.there))) ?_
  rintro _ _ ⟨rfl, rfl⟩
  refine g_nil ?_
  refine gc_region ?_
  refine g_ev (e_mv) ?_
  refine g_ev (e_nc rfl) ?_
  refine g_ev (e_fa Try.underlying69 rfl rfl Try.sizeOf67) ?_
  refine g_eff (s_call (bstore_t (b := b) (off := 1) false rfl) (.cons (by repeat ((conv => arg 2; whnf); first | with_reducible exact .here | ((with_reducible refine Del.hereC ?_); rfl) | ((with_reducible refine Del.hereS ?_ ?_ ?_) <;> rfl) | exact .here | apply Del.there)) (.nil))) ?_
  rintro _ _ ⟨_, ⟨rfl, rfl⟩, rfl⟩
  refine g_nil ?_
  exact (end0 rfl ⟨rfl, rfl⟩ (fun _ h => h.fin (.fold (M := memM b s.on _) (fun _ h => ⟨_, h⟩) (by repeat ((conv => arg 1; whnf); (conv => arg 2; whnf); first | with_reducible exact .done | exact Fin.all _ | refine .cons (by repeat ((conv => arg 2; whnf); first | with_reducible exact .here | ((with_reducible refine Del.hereC ?_); rfl) | ((with_reducible refine Del.hereS ?_ ?_ ?_) <;> rfl) | exact .here | apply Del.there)) ?_ | refine .drop ?_)))))

theorem clone_t {a : Option Addr} {m c : Nat} {xs : List Value} {L0 : List HProp} (hr : ∀ B w, Sat B w L0 → Rds w 1 (.slice a m c) m xs) (h1 : ∀ u ∈ xs, u.oneCell' = true) (hm : m ≤ 140737488355328) : Tri Try.prog 26 #[.slice a m c] L0 (fun v L => ∃ a2 c2, v = .slice a2 m c2 ∧ L = sown 5 1 (.slice a2 m c2) m xs :: L0 ∧ a2.isNone = a.isNone) := by
  refine tri_of Try.call26 Try.func26 rfl fun B F => ?_
  refine gc_fact (φ := a = none → m = 0 ∧ xs = []) (fun w h => (hr _ w h.left).nil_) fun hnn => ?_
  refine gc_seq ?_
  refine gc_region ?_
  refine g_ev (e_as) ?_
  refine g_nil ?_
  refine gc_seq ?_
  refine gc_seq ?_
  refine gc_region ?_
  refine g_ev (e_mv) ?_
  refine g_ev (e_eqn Try.underlying22 rfl rfl) ?_
  refine g_nil ?_
  first | refine gc_dec rfl (fun c4 => ?_) (fun c4 => ?_) | refine gc_ndec rfl (fun c4 => ?_) (fun c4 => ?_) | refine gc_cond rfl (fun c4 => ?_) (fun c4 => ?_)
  · skip
    refine gc_seq ?_
    refine gc_region ?_
    refine g_ev (e_as) ?_
    refine g_nil ?_
    refine gc_ret ?_
    have ha : a = none := by simpa using c4
    obtain ⟨h2, h3⟩ := hnn ha
    subst ha; subst h2; subst h3
    exact (ret1 rfl (by (conv => lhs; whnf); try rfl) ⟨none, 0, rfl, rfl, rfl⟩ (fun _ h => h.fin (L1 := sown 5 1 (.slice none 0 0) 0 [] :: L0) (.fold nil_fold (.all _))))
  · skip
    refine gc_skip ?_
    refine gc_seq ?_
    refine gc_region ?_
    refine g_eff (s_bs0 Try.underlying22 Try.sizeOf5) ?_
    rintro _ _ ⟨b5, rfl, rfl⟩
    refine g_ev (e_mv) ?_
    refine g_eff (s_ap0 (bytes := 1) Try.underlying22 info5 rfl rfl rfl rfl (by decide) rfl rfl .here (fun B w h => hr B w h.tail.left) h1 (by omega) (by unfold maxLen; omega)) ?_
    rintro _ _ ⟨a2, c2, rfl, rfl, hnil⟩
    refine g_ev (e_as) ?_
    refine g_nil ?_
    refine gc_ret ?_
    have ha : a.isNone = false := by simpa using c4
    exact (ret1 rfl (by (conv => lhs; whnf); try rfl) ⟨a2, c2, rfl, rfl, by rw [hnil, ha]⟩ (fun _ h => h))

theorem bytes_t (b : Nat) (s : MemS) (hm : s.bs.length ≤ 140737488355328) : Tri Try.prog 9 #[.pointer (some ⟨b, 0, none⟩)] [memP b s] (fun v L => ∃ a2 c2, v = .slice a2 s.bs.length c2 ∧ L = [sown 5 1 (.slice a2 s.bs.length c2) s.bs.length (bv s.bs), memP b s] ∧ a2.isNone = s.nl) := by
  refine tri_of Try.call9 Try.func9 rfl fun B F => ?_
  refine gc_open (memM b s) .here (fun _ h => h) (fun bsl => ?_)
  refine gc_fact (φ := slV bsl s.bs.length) (fun w h => (h.rds (.there .here)).slv) fun ⟨sl, cp, hsl, hnl, hni⟩ => ?_
  subst hsl
  refine gc_pr (.there (.there .here)) fun hpr => ?_
  refine gc_seq ?_
  refine gc_region ?_
  refine g_ev (e_as) ?_
  refine g_nil ?_
  refine gc_seq ?_
  refine gc_seq ?_
  refine gc_region ?_
  refine g_ev (e_mv) ?_
  refine g_ev (e_eqp Try.underlying26 rfl rfl) ?_
  refine g_nil ?_
  refine gc_false ?_
  refine gc_skip ?_
  refine gc_seq ?_
  refine gc_region ?_
  refine g_ev (e_mv) ?_
  refine g_ev (e_nc rfl) ?_
  refine g_ev (e_fa Try.underlying69 rfl rfl Try.sizeOf22) ?_
  refine g_ev (e_ld Try.underlying22 rfl (by repeat ((conv => arg 2; whnf); first | with_reducible exact .here | ((with_reducible refine Del.hereC ?_); rfl) | ((with_reducible refine Del.hereS ?_ ?_ ?_) <;> rfl) | exact .here | apply Del.there)) rfl) ?_
  refine g_eff (s_call (clone_t (a := sl) (m := s.bs.length) (c := cp) (L0 := [sown 5 1 (.slice sl s.bs.length cp) s.bs.length (bv s.bs)]) (fun B w h => h.rds .here) (bv_one _) hm) (.cons (.there .here) .nil)) ?_
  rintro _ _ ⟨_, ⟨a2, c2, rfl, rfl, hn⟩, rfl⟩
  refine g_ev (e_as) ?_
  refine g_nil ?_
  refine gc_ret ?_
  exact (ret1 rfl (by (conv => lhs; whnf); try rfl) ⟨a2, c2, rfl, rfl, by rw [hn, ← hni]; exact hpr⟩ (fun _ h => h.fin (.cons .here (.fold (M := memM b s _) (fun _ h => ⟨_, h⟩) (.cons (.there .here) (.cons .here (.pr hpr .done)))))))

theorem load_t {a : Option Addr} {c : Nat} {bs : List UInt8} {L0 : List HProp} (hr : ∀ B w, Sat B w L0 → Rds w 1 (.slice a bs.length c) bs.length (bv bs)) (hm : bs.length ≤ 140737488355328) : Tri Try.prog 7 #[.slice a bs.length c] L0 (fun v L => if 4096 < bs.length then v = .tuple #[.pointer none, .int .i64 2] ∧ L = L0 else ∃ b, v = .tuple #[.pointer (some ⟨b, 0, none⟩), .int .i64 0] ∧ L = memP b ⟨bs, false, false, 0, 0, a.isNone⟩ :: L0) := by
  refine tri_of Try.call7 Try.func7 rfl fun B F => ?_
  refine gc_seq ?_
  refine gc_region ?_
  refine g_ev (e_as) ?_
  refine g_ev (e_as) ?_
  refine g_nil ?_
  refine gc_seq ?_
  refine gc_seq ?_
  refine gc_region ?_
  refine g_ev (e_mv) ?_
  refine g_ev (e_len Try.underlying22 rfl) ?_
  refine g_ev (e_gt rfl rfl) ?_
  refine g_nil ?_
  first | refine gc_dec rfl (fun c6 => ?_) (fun c6 => ?_) | refine gc_ndec rfl (fun c6 => ?_) (fun c6 => ?_) | refine gc_cond rfl (fun c6 => ?_) (fun c6 => ?_)
  · skip
    refine gc_seq ?_
    refine gc_region ?_
    refine g_ev (e_as) ?_
    refine g_ev (e_as) ?_
    refine g_nil ?_
    refine gc_ret ?_
    exact (ret2 (L1 := L0) rfl (by (conv => lhs; whnf); try rfl) (by (conv => lhs; whnf); try rfl) (by rw [if_pos (by omega)]; exact And.intro rfl rfl) (fun _ h => h))
  · skip
    refine gc_skip ?_
    refine gc_seq ?_
    refine gc_region ?_
    refine g_ev (e_mv) ?_
    refine g_eff (s_call (clone_t hr (bv_one _) hm) (Pick.all _)) ?_
    rintro _ _ ⟨_, ⟨a2, c2, rfl, rfl, hn⟩, rfl⟩
    refine g_ev (e_bd Try.underlying69 Try.zeroValue69 pl69 rfl) ?_
    refine g_eff (s_bx) ?_
    rintro _ _ ⟨b10, rfl, rfl⟩
    refine g_ev (e_as) ?_
    refine g_ev (e_as) ?_
    refine g_nil ?_
    refine gc_ret ?_
    exact (ret2 (L1 := memP b10 ⟨bs, false, false, 0, 0, a.isNone⟩ :: L0) rfl (by (conv => lhs; whnf); try rfl) (by (conv => lhs; whnf); try rfl) (by rw [if_neg (by omega)]; exact ⟨b10, rfl, rfl⟩) (fun _ h => h.fin (.fold (M := memM b10 ⟨bs, false, false, 0, 0, a.isNone⟩ (.slice a2 bs.length c2)) (fun _ h => ⟨_, h⟩) (.cons .here (.cons .here (.pr (by rw [← hn]; cases a2 <;> rfl) (.all _)))))))

theorem new_t (m : Nat) (hm : m ≤ 4096) : Tri Try.prog 24 #[.int .i64 (m : Int)] [] (fun v L => ∃ b, v = .tuple #[.pointer (some ⟨b, 0, none⟩), .int .i64 0] ∧ L = [memP b ⟨List.replicate m 0, false, false, 0, 0, false⟩]) := by
  refine tri_of Try.call24 Try.func24 rfl fun B F => ?_
  refine gc_seq ?_
  refine gc_region ?_
  refine g_ev (e_as) ?_
  refine g_ev (e_as) ?_
  refine g_nil ?_
  refine gc_seq ?_
  refine gc_seq ?_
  refine gc_region ?_
  refine g_ev (e_mv) ?_
  refine g_ev (e_lt rfl rfl) ?_
  refine g_ev (e_mv) ?_
  first | refine g_dec 6 rfl (fun c6 => ?_) (fun c6 => ?_) | refine g_ndec 6 rfl (fun c6 => ?_) (fun c6 => ?_) | refine g_bool 6 rfl (fun c6 => ?_) (fun c6 => ?_)
  · omega
  · skip
    refine g_ev (e_mv) ?_
    refine g_ev (e_gt rfl rfl) ?_
    refine g_ev (e_pk rfl) ?_
    refine g_nil ?_
    first | refine gc_dec rfl (fun c9 => ?_) (fun c9 => ?_) | refine gc_ndec rfl (fun c9 => ?_) (fun c9 => ?_) | refine gc_cond rfl (fun c9 => ?_) (fun c9 => ?_)
    · omega
    · skip
      refine gc_skip ?_
      refine gc_seq ?_
      refine gc_region ?_
      refine g_ev (e_mv) ?_
      refine g_eff (s_mk (m := m) (k := 1) (bytes := 1) Try.underlying22 info5 rfl rfl rfl rfl rfl (by omega) (by omega)) ?_
      rintro _ _ ⟨b11, rfl, rfl⟩
      rw [show (madeCells (Value.int IntKind.u8 0).cells (m * 1)).toList = bv (List.replicate m 0) from made_bytes m _ rfl]
      refine g_ev (e_bd Try.underlying69 Try.zeroValue69 pl69 rfl) ?_
      refine g_eff (s_bx) ?_
      rintro _ _ ⟨b13, rfl, rfl⟩
      refine g_ev (e_as) ?_
      refine g_ev (e_as) ?_
      refine g_nil ?_
      refine gc_ret ?_
      exact (ret2 (L1 := [memP b13 ⟨List.replicate m 0, false, false, 0, 0, false⟩]) rfl (by (conv => lhs; whnf); try rfl) (by (conv => lhs; whnf); try rfl) ⟨b13, rfl, rfl⟩ (fun _ h => h.fin (.fold (M := memM b13 ⟨List.replicate m 0, false, false, 0, 0, false⟩ (.slice (some ⟨b11, 0, none⟩) m m)) (fun _ h => ⟨_, h⟩) (.cons .here (.fold (M := [blk b11 5 (bv (List.replicate m 0))]) (fun f h => by have := slR_own (m := m) (by unfold maxLen; omega) (by simp [bv]) f h; simpa [List.length_replicate] using this) (.cons .here (.pr rfl .done)))))))

theorem write_t (b : Nat) (s : MemS) (at_ : Int) (c : UInt8) : Tri Try.prog 25 #[.pointer (some ⟨b, 0, none⟩), .int .i64 at_, .int .u8 (c.toNat : Int)] [memP b s] (writeR b (s.write at_ c)) := by
  refine tri_of Try.call25 Try.func25 rfl fun B F => ?_
  refine gc_open (memM b s) .here (fun _ h => h) (fun bsl => ?_)
  refine gc_fact (φ := slV bsl s.bs.length) (fun w h => (h.rds (.there .here)).slv) fun ⟨sl, cp, hsl, hnl, hni⟩ => ?_
  subst hsl
  refine gc_seq ?_
  refine gc_region ?_
  refine g_ev (e_as) ?_
  refine g_nil ?_
  refine gc_seq ?_
  refine gc_block ?_
  refine gc_seq ?_
  refine gc_region ?_
  refine g_ev (e_mv) ?_
  refine g_ev (e_eqp Try.underlying26 rfl rfl) ?_
  refine g_ev (e_as) ?_
  refine g_nil ?_
  refine gc_false ?_
  refine gc_seq ?_
  refine gc_region ?_
  refine g_ev (e_mv) ?_
  refine g_ev (e_nc rfl) ?_
  refine g_ev (e_fa Try.underlying69 rfl rfl Try.sizeOf67) ?_
  refine g_eff (s_call (bload_t (b := b) (off := 1) rfl) (.cons (by repeat ((conv => arg 2; whnf); first | with_reducible exact .here | ((with_reducible refine Del.hereC ?_); rfl) | ((with_reducible refine Del.hereS ?_ ?_ ?_) <;> rfl) | exact .here | apply Del.there)) (.nil))) ?_
  rintro _ _ ⟨_, ⟨rfl, rfl⟩, rfl⟩
  refine g_ev (e_as) ?_
  refine g_nil ?_
  first | refine gc_dec rfl (fun c10 => ?_) (fun c10 => ?_) | refine gc_ndec rfl (fun c10 => ?_) (fun c10 => ?_) | refine gc_cond rfl (fun c10 => ?_) (fun c10 => ?_)
  · skip
    refine gc_seq ?_
    refine gc_region ?_
    refine g_ev (e_as) ?_
    refine g_nil ?_
    refine gc_ret ?_
    have h0 : s.off = true := by cases h : s.off <;> simp [h, b01] at c10; rfl
    exact (ret1 (L1 := [memP b s]) rfl (by (conv => lhs; whnf); try rfl) (by unfold writeR MemS.write; rw [if_pos h0]; exact And.intro rfl rfl) (fun _ h => h.fin (.fold (M := memM b s _) (fun _ h => ⟨_, h⟩) (by repeat ((conv => arg 1; whnf); (conv => arg 2; whnf); first | with_reducible exact .done | exact Fin.all _ | refine .cons (by repeat ((conv => arg 2; whnf); first | with_reducible exact .here | ((with_reducible refine Del.hereC ?_); rfl) | ((with_reducible refine Del.hereS ?_ ?_ ?_) <;> rfl) | exact .here | apply Del.there)) ?_ | refine .drop ?_)))))
  · skip
    refine gc_seq ?_
    refine gc_region ?_
    refine g_ev (e_mv) ?_
    refine g_ev (e_lt rfl rfl) ?_
    refine g_ev (e_mv) ?_
    first | refine g_dec 18 rfl (fun c18 => ?_) (fun c18 => ?_) | refine g_ndec 18 rfl (fun c18 => ?_) (fun c18 => ?_) | refine g_bool 18 rfl (fun c18 => ?_) (fun c18 => ?_)
    · skip
      refine g_not ?_
      refine g_not ?_
      refine g_not ?_
      refine g_not ?_
      refine g_not ?_
      refine g_not ?_
      refine g_not ?_
      refine g_ev (e_pk rfl) ?_
      refine g_ev (e_as) ?_
      refine g_nil ?_
      refine gc_true ?_
      refine gc_seq ?_
      refine gc_region ?_
      refine g_ev (e_as) ?_
      refine g_nil ?_
      refine gc_ret ?_
      have h0 : ¬ s.off = true := by intro h; rw [h] at c10; cases c10
      exact (ret1 (L1 := [memP b s]) rfl (by (conv => lhs; whnf); try rfl) (by unfold writeR MemS.write; rw [if_neg h0, if_pos (.inl c18)]; exact And.intro rfl rfl) (fun _ h => h.fin (.fold (M := memM b s _) (fun _ h => ⟨_, h⟩) (by repeat ((conv => arg 1; whnf); (conv => arg 2; whnf); first | with_reducible exact .done | exact Fin.all _ | refine .cons (by repeat ((conv => arg 2; whnf); first | with_reducible exact .here | ((with_reducible refine Del.hereC ?_); rfl) | ((with_reducible refine Del.hereS ?_ ?_ ?_) <;> rfl) | exact .here | apply Del.there)) ?_ | refine .drop ?_)))))
    · skip
      refine g_ev (e_mv) ?_
      refine g_ev (e_mv) ?_
      refine g_ev (e_nc rfl) ?_
      refine g_ev (e_fa Try.underlying69 rfl rfl Try.sizeOf22) ?_
      refine g_ev (e_ld Try.underlying22 rfl (by repeat ((conv => arg 2; whnf); first | with_reducible exact .here | ((with_reducible refine Del.hereC ?_); rfl) | ((with_reducible refine Del.hereS ?_ ?_ ?_) <;> rfl) | exact .here | apply Del.there)) rfl) ?_
      refine g_ev (e_len Try.underlying22 rfl) ?_
      refine g_ev (e_ge rfl rfl) ?_
      refine g_ev (e_pk rfl) ?_
      refine g_ev (e_as) ?_
      refine g_nil ?_
      first | refine gc_dec rfl (fun c15 => ?_) (fun c15 => ?_) | refine gc_ndec rfl (fun c15 => ?_) (fun c15 => ?_) | refine gc_cond rfl (fun c15 => ?_) (fun c15 => ?_)
      · skip
        refine gc_seq ?_
        refine gc_region ?_
        refine g_ev (e_as) ?_
        refine g_nil ?_
        refine gc_ret ?_
        have h0 : ¬ s.off = true := by intro h; rw [h] at c10; cases c10
        exact (ret1 (L1 := [memP b s]) rfl (by (conv => lhs; whnf); try rfl) (by unfold writeR MemS.write; rw [if_neg h0, if_pos (.inr c15)]; exact And.intro rfl rfl) (fun _ h => h.fin (.fold (M := memM b s _) (fun _ h => ⟨_, h⟩) (by repeat ((conv => arg 1; whnf); (conv => arg 2; whnf); first | with_reducible exact .done | exact Fin.all _ | refine .cons (by repeat ((conv => arg 2; whnf); first | with_reducible exact .here | ((with_reducible refine Del.hereC ?_); rfl) | ((with_reducible refine Del.hereS ?_ ?_ ?_) <;> rfl) | exact .here | apply Del.there)) ?_ | refine .drop ?_)))))
      · skip
        refine gc_seq ?_
        refine gc_region ?_
        refine g_ev (e_mv) ?_
        refine g_ev (e_nc rfl) ?_
        refine g_ev (e_fa Try.underlying69 rfl rfl Try.sizeOf4) ?_
        refine g_ev (e_ld Try.underlying4 rfl (by repeat ((conv => arg 2; whnf); first | with_reducible exact .here | ((with_reducible refine Del.hereC ?_); rfl) | ((with_reducible refine Del.hereS ?_ ?_ ?_) <;> rfl) | exact .here | apply Del.there)) rfl) ?_
        refine g_ev (e_mv) ?_
        first | refine g_dec 32 rfl (fun c32 => ?_) (fun c32 => ?_) | refine g_ndec 32 rfl (fun c32 => ?_) (fun c32 => ?_) | refine g_bool 32 rfl (fun c32 => ?_) (fun c32 => ?_)
        · skip
          refine g_ev (e_mv) ?_
          refine g_ev (e_nc rfl) ?_
          refine g_ev (e_fa Try.underlying69 rfl rfl Try.sizeOf3) ?_
          refine g_ev (e_ld Try.underlying3 rfl (by repeat ((conv => arg 2; whnf); first | with_reducible exact .here | ((with_reducible refine Del.hereC ?_); rfl) | ((with_reducible refine Del.hereS ?_ ?_ ?_) <;> rfl) | exact .here | apply Del.there)) rfl) ?_
          refine g_ev (e_eq rfl rfl) ?_
          refine g_ev (e_pk rfl) ?_
          refine g_ev (e_as) ?_
          refine g_nil ?_
          first | refine gc_dec rfl (fun c27 => ?_) (fun c27 => ?_) | refine gc_ndec rfl (fun c27 => ?_) (fun c27 => ?_) | refine gc_cond rfl (fun c27 => ?_) (fun c27 => ?_)
          · skip
            refine gc_seq ?_
            refine gc_region ?_
            refine g_ev (e_mv) ?_
            refine g_ev (e_nc rfl) ?_
            refine g_ev (e_fa Try.underlying69 rfl rfl Try.sizeOf67) ?_
            refine g_eff (s_call (bstore_t (b := b) (off := 1) true rfl) (.cons (by repeat ((conv => arg 2; whnf); first | with_reducible exact .here | ((with_reducible refine Del.hereC ?_); rfl) | ((with_reducible refine Del.hereS ?_ ?_ ?_) <;> rfl) | exact .here | apply Del.there)) (.nil))) ?_
            rintro _ _ ⟨_, ⟨rfl, rfl⟩, rfl⟩
            refine g_nil ?_
            refine gc_seq ?_
            refine gc_region ?_
            refine g_ev (e_as) ?_
            refine g_nil ?_
            refine gc_ret ?_
            have h0 : ¬ s.off = true := by intro h; rw [h] at c10; cases c10
            exact (ret1 (L1 := [memP b { s with off := true }]) rfl (by (conv => lhs; whnf); try rfl) (by unfold writeR MemS.write; rw [if_neg h0, if_neg (by omega), if_pos ⟨c32, c27⟩]; exact And.intro rfl rfl) (fun _ h => h.fin (.fold (M := memM b { s with off := true } _) (fun _ h => ⟨_, h⟩) (by repeat ((conv => arg 1; whnf); (conv => arg 2; whnf); first | with_reducible exact .done | exact Fin.all _ | refine .cons (by repeat ((conv => arg 2; whnf); first | with_reducible exact .here | ((with_reducible refine Del.hereC ?_); rfl) | ((with_reducible refine Del.hereS ?_ ?_ ?_) <;> rfl) | exact .here | apply Del.there)) ?_ | refine .drop ?_)))))
          · skip
            refine gc_skip ?_
            refine gc_seq ?_
            refine gc_seq ?_
            refine gc_region ?_
            refine g_ev (e_mv) ?_
            refine g_ev (e_nc rfl) ?_
            refine g_ev (e_fa Try.underlying69 rfl rfl Try.sizeOf4) ?_
            refine g_ev (e_ld Try.underlying4 rfl (by repeat ((conv => arg 2; whnf); first | with_reducible exact .here | ((with_reducible refine Del.hereC ?_); rfl) | ((with_reducible refine Del.hereS ?_ ?_ ?_) <;> rfl) | exact .here | apply Del.there)) rfl) ?_
            refine g_nil ?_
            first | refine gc_dec rfl (fun c46 => ?_) (fun c46 => ?_) | refine gc_ndec rfl (fun c46 => ?_) (fun c46 => ?_) | refine gc_cond rfl (fun c46 => ?_) (fun c46 => ?_)
            · skip
              refine gc_region ?_
              refine g_ev (e_mv) ?_
              refine g_ev (e_nc rfl) ?_
              refine g_ev (e_fa Try.underlying69 rfl rfl Try.sizeOf3) ?_
              refine g_ev (e_ld Try.underlying3 rfl (by repeat ((conv => arg 2; whnf); first | with_reducible exact .here | ((with_reducible refine Del.hereC ?_); rfl) | ((with_reducible refine Del.hereS ?_ ?_ ?_) <;> rfl) | exact .here | apply Del.there)) rfl) ?_
              refine g_ev (e_subw rfl rfl) ?_
              refine g_ev (e_nc rfl) ?_
              refine g_ev (e_fa Try.underlying69 rfl rfl Try.sizeOf3) ?_
              refine g_eff (s_st Try.sizeOf3 rfl (by repeat ((conv => arg 3; whnf); first | with_reducible exact .here | apply Turn.there))) ?_
              rintro _ _ ⟨rfl, rfl⟩
              refine g_nil ?_
              refine gc_seq ?_
              refine gc_region ?_
              refine g_ev (e_mv) ?_
              refine g_ev (e_nc rfl) ?_
              refine g_ev (e_fa Try.underlying69 rfl rfl Try.sizeOf22) ?_
              refine g_ev (e_ld Try.underlying22 rfl (by repeat ((conv => arg 2; whnf); first | with_reducible exact .here | ((with_reducible refine Del.hereC ?_); rfl) | ((with_reducible refine Del.hereS ?_ ?_ ?_) <;> rfl) | exact .here | apply Del.there)) rfl) ?_
              refine g_ev (e_mv) ?_
              refine g_ev (e_mv) ?_
              refine g_own (m := s.bs.length) (v := .slice sl s.bs.length cp) (e := 5) (k := 1) (xs := bv s.bs) (by omega) (by repeat ((conv => arg 2; whnf); first | with_reducible exact .here | ((with_reducible refine Del.hereC ?_); rfl) | ((with_reducible refine Del.hereS ?_ ?_ ?_) <;> rfl) | exact .here | apply Del.there)) fun b1 cap rest hv hv1 hv2 hv3 hv4 => ?_
              cases hv
              refine g_ev (e_ia Try.underlying22 Try.sizeOf5 rfl rfl (q := at_.toNat) (by omega) (by omega)) ?_
              refine g_eff (s_st Try.sizeOf5 rfl (by repeat ((conv => arg 3; whnf); first | with_reducible exact .here | apply Turn.there))) ?_
              rintro _ _ ⟨rfl, rfl⟩
              refine g_nil ?_
              refine gc_seq ?_
              refine gc_region ?_
              refine g_ev (e_mv) ?_
              refine g_ev (e_nc rfl) ?_
              refine g_ev (e_fa Try.underlying69 rfl rfl Try.sizeOf3) ?_
              refine g_ev (e_ld Try.underlying3 rfl (by repeat ((conv => arg 2; whnf); first | with_reducible exact .here | ((with_reducible refine Del.hereC ?_); rfl) | ((with_reducible refine Del.hereS ?_ ?_ ?_) <;> rfl) | exact .here | apply Del.there)) rfl) ?_
              refine g_ev (e_addw rfl rfl) ?_
              refine g_ev (e_nc rfl) ?_
              refine g_ev (e_fa Try.underlying69 rfl rfl Try.sizeOf3) ?_
              refine g_eff (s_st Try.sizeOf3 rfl (by repeat ((conv => arg 3; whnf); first | with_reducible exact .here | apply Turn.there))) ?_
              rintro _ _ ⟨rfl, rfl⟩
              refine g_nil ?_
              refine gc_seq ?_
              refine gc_region ?_
              refine g_ev (e_as) ?_
              refine g_nil ?_
              refine gc_ret ?_
              have h0 : ¬ s.off = true := by intro h; rw [h] at c10; cases c10
              have hset : bv (s.bs.set at_.toNat c) ++ rest = (bv s.bs ++ rest).set at_.toNat (.int .u8 (c.toNat : Int)) := by rw [List.set_append_left _ _ (by rw [bv_len]; omega)]; simp [bv, List.map_set]
              exact (ret1 (L1 := [memP b { s with left := IntKind.i64.wrap (s.left - 1), bs := s.bs.set at_.toNat c, writes := IntKind.i64.wrap (s.writes + 1) }]) rfl (by (conv => lhs; whnf); try rfl) (by unfold writeR MemS.write; rw [if_neg h0, if_neg (by omega), if_neg (fun h => c27 h.2), if_pos c32]; exact And.intro rfl rfl) (fun _ h => h.fin (.fold (M := memM b { s with left := IntKind.i64.wrap (s.left - 1), bs := s.bs.set at_.toNat c, writes := IntKind.i64.wrap (s.writes + 1) } (.slice (some ⟨b1, 0, none⟩) s.bs.length cp)) (fun _ h => ⟨_, h⟩) (.cons (by first | (rw [hset]; repeat ((conv => arg 2; whnf); first | with_reducible exact .here | ((with_reducible refine Del.hereC ?_); rfl) | ((with_reducible refine Del.hereS ?_ ?_ ?_) <;> rfl) | exact .here | apply Del.there)) | repeat ((conv => arg 2; whnf); first | with_reducible exact .here | ((with_reducible refine Del.hereC ?_); rfl) | ((with_reducible refine Del.hereS ?_ ?_ ?_) <;> rfl) | exact .here | apply Del.there)) (.fold (M := [blk b1 5 (bv (s.bs.set at_.toNat c) ++ rest)]) (own_fold (rest := rest) (by simp; rfl) (by simp [bv]) (by simp; omega) (by omega) (by rw [← hv4]; simp [bv])) (.cons (by first | (rw [hset]; repeat ((conv => arg 2; whnf); first | with_reducible exact .here | ((with_reducible refine Del.hereC ?_); rfl) | ((with_reducible refine Del.hereS ?_ ?_ ?_) <;> rfl) | exact .here | apply Del.there)) | repeat ((conv => arg 2; whnf); first | with_reducible exact .here | ((with_reducible refine Del.hereC ?_); rfl) | ((with_reducible refine Del.hereS ?_ ?_ ?_) <;> rfl) | exact .here | apply Del.there)) (.cons (by first | (rw [hset]; repeat ((conv => arg 2; whnf); first | with_reducible exact .here | ((with_reducible refine Del.hereC ?_); rfl) | ((with_reducible refine Del.hereS ?_ ?_ ?_) <;> rfl) | exact .here | apply Del.there)) | repeat ((conv => arg 2; whnf); first | with_reducible exact .here | ((with_reducible refine Del.hereC ?_); rfl) | ((with_reducible refine Del.hereS ?_ ?_ ?_) <;> rfl) | exact .here | apply Del.there)) .done)))))))
            · skip
              refine gc_skip ?_
              refine gc_seq ?_
              refine gc_region ?_
              refine g_ev (e_mv) ?_
              refine g_ev (e_nc rfl) ?_
              refine g_ev (e_fa Try.underlying69 rfl rfl Try.sizeOf22) ?_
              refine g_ev (e_ld Try.underlying22 rfl (by repeat ((conv => arg 2; whnf); first | with_reducible exact .here | ((with_reducible refine Del.hereC ?_); rfl) | ((with_reducible refine Del.hereS ?_ ?_ ?_) <;> rfl) | exact .here | apply Del.there)) rfl) ?_
              refine g_ev (e_mv) ?_
              refine g_ev (e_mv) ?_
              refine g_own (m := s.bs.length) (v := .slice sl s.bs.length cp) (e := 5) (k := 1) (xs := bv s.bs) (by omega) (by repeat ((conv => arg 2; whnf); first | with_reducible exact .here | ((with_reducible refine Del.hereC ?_); rfl) | ((with_reducible refine Del.hereS ?_ ?_ ?_) <;> rfl) | exact .here | apply Del.there)) fun b1 cap rest hv hv1 hv2 hv3 hv4 => ?_
              cases hv
              refine g_ev (e_ia Try.underlying22 Try.sizeOf5 rfl rfl (q := at_.toNat) (by omega) (by omega)) ?_
              refine g_eff (s_st Try.sizeOf5 rfl (by repeat ((conv => arg 3; whnf); first | with_reducible exact .here | apply Turn.there))) ?_
              rintro _ _ ⟨rfl, rfl⟩
              refine g_nil ?_
              refine gc_seq ?_
              refine gc_region ?_
              refine g_ev (e_mv) ?_
              refine g_ev (e_nc rfl) ?_
              refine g_ev (e_fa Try.underlying69 rfl rfl Try.sizeOf3) ?_
              refine g_ev (e_ld Try.underlying3 rfl (by repeat ((conv => arg 2; whnf); first | with_reducible exact .here | ((with_reducible refine Del.hereC ?_); rfl) | ((with_reducible refine Del.hereS ?_ ?_ ?_) <;> rfl) | exact .here | apply Del.there)) rfl) ?_
              refine g_ev (e_addw rfl rfl) ?_
              refine g_ev (e_nc rfl) ?_
              refine g_ev (e_fa Try.underlying69 rfl rfl Try.sizeOf3) ?_
              refine g_eff (s_st Try.sizeOf3 rfl (by repeat ((conv => arg 3; whnf); first | with_reducible exact .here | apply Turn.there))) ?_
              rintro _ _ ⟨rfl, rfl⟩
              refine g_nil ?_
              refine gc_seq ?_
              refine gc_region ?_
              refine g_ev (e_as) ?_
              refine g_nil ?_
              refine gc_ret ?_
              exact absurd c46 (by rw [c32]; simp)
        · skip
          refine g_not ?_
          refine g_not ?_
          refine g_not ?_
          refine g_not ?_
          refine g_not ?_
          refine g_ev (e_pk rfl) ?_
          refine g_ev (e_as) ?_
          refine g_nil ?_
          refine gc_false ?_
          refine gc_skip ?_
          refine gc_seq ?_
          refine gc_seq ?_
          refine gc_region ?_
          refine g_ev (e_mv) ?_
          refine g_ev (e_nc rfl) ?_
          refine g_ev (e_fa Try.underlying69 rfl rfl Try.sizeOf4) ?_
          refine g_ev (e_ld Try.underlying4 rfl (by repeat ((conv => arg 2; whnf); first | with_reducible exact .here | ((with_reducible refine Del.hereC ?_); rfl) | ((with_reducible refine Del.hereS ?_ ?_ ?_) <;> rfl) | exact .here | apply Del.there)) rfl) ?_
          refine g_nil ?_
          first | refine gc_dec rfl (fun c46 => ?_) (fun c46 => ?_) | refine gc_ndec rfl (fun c46 => ?_) (fun c46 => ?_) | refine gc_cond rfl (fun c46 => ?_) (fun c46 => ?_)
          · skip
            refine gc_region ?_
            refine g_ev (e_mv) ?_
            refine g_ev (e_nc rfl) ?_
            refine g_ev (e_fa Try.underlying69 rfl rfl Try.sizeOf3) ?_
            refine g_ev (e_ld Try.underlying3 rfl (by repeat ((conv => arg 2; whnf); first | with_reducible exact .here | ((with_reducible refine Del.hereC ?_); rfl) | ((with_reducible refine Del.hereS ?_ ?_ ?_) <;> rfl) | exact .here | apply Del.there)) rfl) ?_
            refine g_ev (e_subw rfl rfl) ?_
            refine g_ev (e_nc rfl) ?_
            refine g_ev (e_fa Try.underlying69 rfl rfl Try.sizeOf3) ?_
            refine g_eff (s_st Try.sizeOf3 rfl (by repeat ((conv => arg 3; whnf); first | with_reducible exact .here | apply Turn.there))) ?_
            rintro _ _ ⟨rfl, rfl⟩
            refine g_nil ?_
            refine gc_seq ?_
            refine gc_region ?_
            refine g_ev (e_mv) ?_
            refine g_ev (e_nc rfl) ?_
            refine g_ev (e_fa Try.underlying69 rfl rfl Try.sizeOf22) ?_
            refine g_ev (e_ld Try.underlying22 rfl (by repeat ((conv => arg 2; whnf); first | with_reducible exact .here | ((with_reducible refine Del.hereC ?_); rfl) | ((with_reducible refine Del.hereS ?_ ?_ ?_) <;> rfl) | exact .here | apply Del.there)) rfl) ?_
            refine g_ev (e_mv) ?_
            refine g_ev (e_mv) ?_
            refine g_own (m := s.bs.length) (v := .slice sl s.bs.length cp) (e := 5) (k := 1) (xs := bv s.bs) (by omega) (by repeat ((conv => arg 2; whnf); first | with_reducible exact .here | ((with_reducible refine Del.hereC ?_); rfl) | ((with_reducible refine Del.hereS ?_ ?_ ?_) <;> rfl) | exact .here | apply Del.there)) fun b1 cap rest hv hv1 hv2 hv3 hv4 => ?_
            cases hv
            refine g_ev (e_ia Try.underlying22 Try.sizeOf5 rfl rfl (q := at_.toNat) (by omega) (by omega)) ?_
            refine g_eff (s_st Try.sizeOf5 rfl (by repeat ((conv => arg 3; whnf); first | with_reducible exact .here | apply Turn.there))) ?_
            rintro _ _ ⟨rfl, rfl⟩
            refine g_nil ?_
            refine gc_seq ?_
            refine gc_region ?_
            refine g_ev (e_mv) ?_
            refine g_ev (e_nc rfl) ?_
            refine g_ev (e_fa Try.underlying69 rfl rfl Try.sizeOf3) ?_
            refine g_ev (e_ld Try.underlying3 rfl (by repeat ((conv => arg 2; whnf); first | with_reducible exact .here | ((with_reducible refine Del.hereC ?_); rfl) | ((with_reducible refine Del.hereS ?_ ?_ ?_) <;> rfl) | exact .here | apply Del.there)) rfl) ?_
            refine g_ev (e_addw rfl rfl) ?_
            refine g_ev (e_nc rfl) ?_
            refine g_ev (e_fa Try.underlying69 rfl rfl Try.sizeOf3) ?_
            refine g_eff (s_st Try.sizeOf3 rfl (by repeat ((conv => arg 3; whnf); first | with_reducible exact .here | apply Turn.there))) ?_
            rintro _ _ ⟨rfl, rfl⟩
            refine g_nil ?_
            refine gc_seq ?_
            refine gc_region ?_
            refine g_ev (e_as) ?_
            refine g_nil ?_
            refine gc_ret ?_
            exact absurd c46 (by rw [c32]; simp)
          · skip
            refine gc_skip ?_
            refine gc_seq ?_
            refine gc_region ?_
            refine g_ev (e_mv) ?_
            refine g_ev (e_nc rfl) ?_
            refine g_ev (e_fa Try.underlying69 rfl rfl Try.sizeOf22) ?_
            refine g_ev (e_ld Try.underlying22 rfl (by repeat ((conv => arg 2; whnf); first | with_reducible exact .here | ((with_reducible refine Del.hereC ?_); rfl) | ((with_reducible refine Del.hereS ?_ ?_ ?_) <;> rfl) | exact .here | apply Del.there)) rfl) ?_
            refine g_ev (e_mv) ?_
            refine g_ev (e_mv) ?_
            refine g_own (m := s.bs.length) (v := .slice sl s.bs.length cp) (e := 5) (k := 1) (xs := bv s.bs) (by omega) (by repeat ((conv => arg 2; whnf); first | with_reducible exact .here | ((with_reducible refine Del.hereC ?_); rfl) | ((with_reducible refine Del.hereS ?_ ?_ ?_) <;> rfl) | exact .here | apply Del.there)) fun b1 cap rest hv hv1 hv2 hv3 hv4 => ?_
            cases hv
            refine g_ev (e_ia Try.underlying22 Try.sizeOf5 rfl rfl (q := at_.toNat) (by omega) (by omega)) ?_
            refine g_eff (s_st Try.sizeOf5 rfl (by repeat ((conv => arg 3; whnf); first | with_reducible exact .here | apply Turn.there))) ?_
            rintro _ _ ⟨rfl, rfl⟩
            refine g_nil ?_
            refine gc_seq ?_
            refine gc_region ?_
            refine g_ev (e_mv) ?_
            refine g_ev (e_nc rfl) ?_
            refine g_ev (e_fa Try.underlying69 rfl rfl Try.sizeOf3) ?_
            refine g_ev (e_ld Try.underlying3 rfl (by repeat ((conv => arg 2; whnf); first | with_reducible exact .here | ((with_reducible refine Del.hereC ?_); rfl) | ((with_reducible refine Del.hereS ?_ ?_ ?_) <;> rfl) | exact .here | apply Del.there)) rfl) ?_
            refine g_ev (e_addw rfl rfl) ?_
            refine g_ev (e_nc rfl) ?_
            refine g_ev (e_fa Try.underlying69 rfl rfl Try.sizeOf3) ?_
            refine g_eff (s_st Try.sizeOf3 rfl (by repeat ((conv => arg 3; whnf); first | with_reducible exact .here | apply Turn.there))) ?_
            rintro _ _ ⟨rfl, rfl⟩
            refine g_nil ?_
            refine gc_seq ?_
            refine gc_region ?_
            refine g_ev (e_as) ?_
            refine g_nil ?_
            refine gc_ret ?_
            have h0 : ¬ s.off = true := by intro h; rw [h] at c10; cases c10
            have hset : bv (s.bs.set at_.toNat c) ++ rest = (bv s.bs ++ rest).set at_.toNat (.int .u8 (c.toNat : Int)) := by rw [List.set_append_left _ _ (by rw [bv_len]; omega)]; simp [bv, List.map_set]
            exact (ret1 (L1 := [memP b { s with bs := s.bs.set at_.toNat c, writes := IntKind.i64.wrap (s.writes + 1) }]) rfl (by (conv => lhs; whnf); try rfl) (by unfold writeR MemS.write; rw [if_neg h0, if_neg (by omega), if_neg (fun h => by rw [c32] at h; cases h.1), if_neg (by rw [c32]; simp)]; exact And.intro rfl rfl) (fun _ h => h.fin (.fold (M := memM b { s with bs := s.bs.set at_.toNat c, writes := IntKind.i64.wrap (s.writes + 1) } (.slice (some ⟨b1, 0, none⟩) s.bs.length cp)) (fun _ h => ⟨_, h⟩) (.cons (by first | (rw [hset]; repeat ((conv => arg 2; whnf); first | with_reducible exact .here | ((with_reducible refine Del.hereC ?_); rfl) | ((with_reducible refine Del.hereS ?_ ?_ ?_) <;> rfl) | exact .here | apply Del.there)) | repeat ((conv => arg 2; whnf); first | with_reducible exact .here | ((with_reducible refine Del.hereC ?_); rfl) | ((with_reducible refine Del.hereS ?_ ?_ ?_) <;> rfl) | exact .here | apply Del.there)) (.fold (M := [blk b1 5 (bv (s.bs.set at_.toNat c) ++ rest)]) (own_fold (rest := rest) (by simp; rfl) (by simp [bv]) (by simp; omega) (by omega) (by rw [← hv4]; simp [bv])) (.cons (by first | (rw [hset]; repeat ((conv => arg 2; whnf); first | with_reducible exact .here | ((with_reducible refine Del.hereC ?_); rfl) | ((with_reducible refine Del.hereS ?_ ?_ ?_) <;> rfl) | exact .here | apply Del.there)) | repeat ((conv => arg 2; whnf); first | with_reducible exact .here | ((with_reducible refine Del.hereC ?_); rfl) | ((with_reducible refine Del.hereS ?_ ?_ ?_) <;> rfl) | exact .here | apply Del.there)) (.cons (by first | (rw [hset]; repeat ((conv => arg 2; whnf); first | with_reducible exact .here | ((with_reducible refine Del.hereC ?_); rfl) | ((with_reducible refine Del.hereS ?_ ?_ ?_) <;> rfl) | exact .here | apply Del.there)) | repeat ((conv => arg 2; whnf); first | with_reducible exact .here | ((with_reducible refine Del.hereC ?_); rfl) | ((with_reducible refine Del.hereS ?_ ?_ ?_) <;> rfl) | exact .here | apply Del.there)) .done)))))))


def tlv (q : Nat) : Value := .int .u8 (IntKind.u8.wrap (201 + (q : Int)))
def tl (m k : Nat) : List Value := (List.range' m k).map tlv
theorem tl_len (m k : Nat) : (tl m k).length = k := by simp [tl]
theorem tl_succ (m k : Nat) : tl m (k + 1) = tl m k ++ [tlv (m + k)] := by simp [tl, List.range'_concat]
theorem zero_made (m : Nat) (z : Array Value) (hz : #[.int .u8 0] = z) : (madeCells z (m * 1)).toList = List.replicate m (.int .u8 0) := by rw [made_bytes m z hz]; simp [bv]

theorem spare_t {a : Option Addr} {c : Nat} {bs : List UInt8} {L0 : List HProp} (hr : ∀ B w, Sat B w L0 → Rds w 1 (.slice a bs.length c) bs.length (bv bs)) (hm : bs.length ≤ 140737488351232) : Tri Try.prog 6 #[.slice a bs.length c] L0 (fun v L => ∃ b, v = .tuple #[.slice (some ⟨b, 0, none⟩) bs.length (bs.length + 9), .slice (some ⟨b, 0, none⟩) (bs.length + 9) (bs.length + 9)] ∧ L = blk b 5 (bv bs ++ tl bs.length 9) :: L0) := by
  refine tri_of Try.call6 Try.func6 rfl fun B F => ?_
  refine gc_seq ?_
  refine gc_region ?_
  refine g_ev (e_as) ?_
  refine g_ev (e_as) ?_
  refine g_nil ?_
  refine gc_seq ?_
  refine gc_region ?_
  refine g_ev (e_mv) ?_
  refine g_ev (e_len Try.underlying22 rfl) ?_
  refine g_ev (e_add rfl rfl (wrap_id _ _ (by simp only [IntKind.min, IntKind.bits, IntKind.signed]; omega) (by simp only [IntKind.max, IntKind.bits, IntKind.signed]; omega))) ?_
  refine g_eff (s_mk (m := bs.length + 9) (k := 1) (bytes := 1) Try.underlying22 info5 rfl rfl rfl rfl (by omega) (by omega) (by omega)) ?_
  rintro _ _ ⟨b9, rfl, rfl⟩
  rw [show (madeCells (Value.int IntKind.u8 0).cells ((bs.length + 9) * 1)).toList = List.replicate (bs.length + 9) (.int .u8 0) from zero_made (bs.length + 9) _ rfl]
  refine g_ev (e_as) ?_
  refine g_nil ?_
  refine gc_seq ?_
  refine gc_region ?_
  refine g_ev (e_mv) ?_
  refine g_ev (e_mv) ?_
  refine g_eff (s_cp (m := bs.length) Try.underlying22 (by kernel_rfl) rfl rfl (fun B w h => hr B w h.tail.left) (by omega) (by simp) (bv_one _) .here) ?_
  rintro _ _ ⟨rfl, rfl⟩
  rw [show List.take 0 (List.replicate (bs.length + 9) (Value.int IntKind.u8 0)) ++ bv bs ++ List.drop (0 + bs.length) (List.replicate (bs.length + 9) (Value.int IntKind.u8 0)) = bv bs ++ tl bs.length 0 ++ List.replicate (9 - 0) (.int .u8 0) by simp [tl]]
  refine g_nil ?_
  refine gc_seq ?_
  refine gc_seq ?_
  refine gc_region ?_
  refine g_ev (e_mv) ?_
  refine g_ev (e_len Try.underlying22 rfl) ?_
  refine g_ev (e_as) ?_
  refine g_nil ?_
  refine gc_block ?_
  refine gc_loop (α := Nat) (fun k E L => k ≤ 9 ∧ E 0 = .slice a bs.length c ∧ E 4 = .slice (some ⟨b9, 0, none⟩) (bs.length + 9) (bs.length + 9) ∧ E 5 = .int .i64 ((bs.length + k : Nat) : Int) ∧ L = blk b9 5 (bv bs ++ tl bs.length k ++ List.replicate (9 - k) (.int .u8 0)) :: (L0 ++ F)) (fun k => 9 - k) 0 ?_ ?_
  · exact ⟨by omega, rfl, rfl, rfl, rfl⟩
  · rintro k E L ⟨hk, h0, h4, h5, rfl⟩
    refine gc_slot 0 _ ?_ h0
    refine gc_slot 4 _ ?_ h4
    refine gc_slot 5 _ ?_ h5
    refine gc_seq ?_
    refine gc_seq ?_
    refine gc_region ?_
    refine g_ev (e_mv) ?_
    refine g_ev (e_mv) ?_
    refine g_ev (e_len Try.underlying22 rfl) ?_
    refine g_ev (e_lt rfl rfl) ?_
    refine g_nil ?_
    first | refine gc_dec rfl (fun c18 => ?_) (fun c18 => ?_) | refine gc_ndec rfl (fun c18 => ?_) (fun c18 => ?_) | refine gc_cond rfl (fun c18 => ?_) (fun c18 => ?_)
    · skip
      refine gc_skip ?_
      refine gc_seq ?_
      refine gc_block ?_
      refine gc_region ?_
      refine g_ev (e_mv) ?_
      refine g_ev (e_mv) ?_
      refine g_ev (e_mv) ?_
      refine g_ev (e_add rfl rfl (wrap_id _ _ (by simp only [IntKind.min, IntKind.bits, IntKind.signed]; omega) (by simp only [IntKind.max, IntKind.bits, IntKind.signed]; omega))) ?_
      refine g_ev (e_cv Try.underlying3 Try.underlying5 rfl) ?_
      refine g_ev (e_ia Try.underlying22 Try.sizeOf5 rfl rfl (q := bs.length + k) (by omega) (by omega)) ?_
      refine g_eff (s_st Try.sizeOf5 rfl (by repeat ((conv => arg 3; whnf); first | with_reducible exact .here | apply Turn.there)) (hlt := by simp only [List.length_append, List.length_replicate, bv_len, tl_len]; omega)) ?_
      rintro _ _ ⟨rfl, rfl⟩
      refine g_nil ?_
      refine gc_region ?_
      refine g_ev (e_mv) ?_
      refine g_ev (e_add rfl rfl (wrap_id _ _ (by simp only [IntKind.min, IntKind.bits, IntKind.signed]; omega) (by simp only [IntKind.max, IntKind.bits, IntKind.signed]; omega))) ?_
      refine g_ev (e_as) ?_
      refine g_nil ?_
      refine Exists.intro (k + 1) (And.intro ⟨by omega, rfl, rfl, ?_, ?_⟩ (by omega))
      · show Value.int _ _ = _; congr 1
      · congr 1; rw [tl_succ]; congr 1; obtain ⟨j, hj⟩ : ∃ j, 9 - k = j + 1 := ⟨8 - k, by omega⟩; rw [hj, show 9 - (k + 1) = j by omega, List.replicate_succ, List.set_append_right _ _ (by simp [bv_len, tl_len])]; simp [bv_len, tl_len, tlv]
    · skip
      refine gc_exit ?_
      refine gc_seq ?_
      refine gc_region ?_
      refine g_ev (e_mv) ?_
      refine g_ev (e_mv) ?_
      refine g_ev (e_len Try.underlying22 rfl) ?_
      refine g_ev (e_sl0 (hi := bs.length) Try.underlying22 Try.sizeOf5 rfl rfl (by omega) (by omega)) ?_
      refine g_ev (e_mv) ?_
      refine g_ev (e_as) ?_
      refine g_ev (e_as) ?_
      refine g_nil ?_
      refine gc_ret ?_
      obtain rfl : k = 9 := by omega
      exact ret2 rfl (by (conv => lhs; whnf); try rfl) (by (conv => lhs; whnf); try rfl) ⟨b9, rfl, rfl⟩ (fun _ h => by simpa using h)

theorem kept_t {a : Option Addr} {b c : Nat} {bs : List UInt8} {L0 : List HProp} (hr : ∀ B w, Sat B w L0 → Rds w 1 (.slice a bs.length c) bs.length (bv bs)) (hm : bs.length ≤ 140737488351232) : Tri Try.prog 8 #[.slice (some ⟨b, 0, none⟩) (bs.length + 9) (bs.length + 9), .slice a bs.length c] (blk b 5 (bv bs ++ tl bs.length 9) :: L0) (isR (.bool true) (blk b 5 (bv bs ++ tl bs.length 9) :: L0)) := by
  refine tri_of Try.call8 Try.func8 rfl fun B F => ?_
  refine gc_seq ?_
  refine gc_region ?_
  refine g_ev (e_as) ?_
  refine g_nil ?_
  refine gc_seq ?_
  refine gc_seq ?_
  refine gc_draw (fin := none) (plan := [(true, 0), (true, 1), (true, 2), (true, 3), (true, 4), (true, 5), (true, 6), (true, 7), (true, 8), (true, 9), (true, 10), (true, 11), (true, 12), (true, 13), (true, 14), (true, 15)]) rfl (by kernel_rfl) (by kernel_rfl) rfl .nil ?_
  refine gp_ev rfl (e_mv) ?_
  refine gp_ev rfl (e_len Try.underlying22 rfl) ?_
  refine gp_ev rfl (e_mv) ?_
  refine gp_ev rfl (e_len Try.underlying22 rfl) ?_
  refine gp_ev rfl (e_add rfl rfl (wrap_id _ _ (by simp only [IntKind.min, IntKind.bits, IntKind.signed]; omega) (by simp only [IntKind.max, IntKind.bits, IntKind.signed]; omega))) ?_
  refine gp_ev rfl (e_ne rfl rfl) ?_
  refine gp_ev rfl (e_mv) ?_
  first | refine gp_dec 12 rfl (fun c12 => ?_) (fun c12 => ?_) | refine gp_ndec 12 rfl (fun c12 => ?_) (fun c12 => ?_) | refine gp_bool 12 rfl (fun c12 => ?_) (fun c12 => ?_)
  · omega
  · skip
    refine gp_ev rfl (e_mv) ?_
    refine gp_ev rfl (e_mv) ?_
    refine gp_ev rfl (e_len Try.underlying22 rfl) ?_
    refine gp_ev rfl (e_sl0 (hi := bs.length) Try.underlying22 Try.sizeOf5 rfl rfl (by omega) (by omega)) ?_
    refine gp_ev rfl (e_b2s (bs := bs) Try.underlying22 Try.underlying5 Try.underlying9 rfl (fun B w h => h.rdsb .here (bv_len _))) ?_
    refine gp_ev rfl (e_mv) ?_
    refine gp_ev rfl (e_b2s (bs := bs) Try.underlying22 Try.underlying5 Try.underlying9 rfl (fun B w h => hr B w h.tail.left)) ?_
    refine gp_ev rfl (e_nes rfl rfl) ?_
    refine gp_ev rfl (e_pk rfl) ?_
    refine gp_nil ?_
    first | refine gc_dec rfl (fun c21 => ?_) (fun c21 => ?_) | refine gc_ndec rfl (fun c21 => ?_) (fun c21 => ?_) | refine gc_cond rfl (fun c21 => ?_) (fun c21 => ?_)
    · exact absurd rfl c21
    · skip
      refine gc_skip ?_
      refine gc_seq ?_
      refine gc_seq ?_
      refine gc_region ?_
      refine g_ev (e_mv) ?_
      refine g_ev (e_len Try.underlying22 rfl) ?_
      refine g_ev (e_as) ?_
      refine g_nil ?_
      refine gc_block ?_
      refine gc_loop (α := Nat) (fun k E L => k ≤ 9 ∧ E 0 = .slice (some ⟨b, 0, none⟩) (bs.length + 9) (bs.length + 9) ∧ E 5 = .int .i64 ((bs.length + k : Nat) : Int) ∧ L = blk b 5 (bv bs ++ tl bs.length 9) :: (L0 ++ F)) (fun k => 9 - k) 0 ?_ ?_
      · exact ⟨by omega, rfl, rfl, rfl⟩
      · rintro k E L ⟨hk, h0, h5, rfl⟩
        refine gc_slot 0 _ ?_ h0
        refine gc_slot 5 _ ?_ h5
        refine gc_seq ?_
        refine gc_seq ?_
        refine gc_region ?_
        refine g_ev (e_mv) ?_
        refine g_ev (e_mv) ?_
        refine g_ev (e_len Try.underlying22 rfl) ?_
        refine g_ev (e_lt rfl rfl) ?_
        refine g_nil ?_
        first | refine gc_dec rfl (fun c27 => ?_) (fun c27 => ?_) | refine gc_ndec rfl (fun c27 => ?_) (fun c27 => ?_) | refine gc_cond rfl (fun c27 => ?_) (fun c27 => ?_)
        · skip
          refine gc_skip ?_
          refine gc_seq ?_
          refine gc_block ?_
          refine gc_seq ?_
          refine gc_region ?_
          have hlt : k < 9 := by omega
          refine g_ev (e_mv) ?_
          refine g_ev (e_mv) ?_
          refine g_ev (e_ia Try.underlying22 Try.sizeOf5 rfl rfl (q := bs.length + k) (by omega) (by omega)) ?_
          refine g_ev (e_ld (v := tlv (bs.length + k)) Try.underlying5 rfl .here (by rw [List.getElem?_append_right (by rw [bv_len]; omega), bv_len, Nat.add_sub_cancel_left]; simp [tl, hlt])) ?_
          refine g_ev (e_mv) ?_
          refine g_ev (e_add rfl rfl (wrap_id _ _ (by simp only [IntKind.min, IntKind.bits, IntKind.signed]; omega) (by simp only [IntKind.max, IntKind.bits, IntKind.signed]; omega))) ?_
          refine g_ev (e_cv Try.underlying3 Try.underlying5 rfl) ?_
          refine g_ev (e_ne rfl rfl) ?_
          refine g_nil ?_
          first | refine gc_dec rfl (fun c37 => ?_) (fun c37 => ?_) | refine gc_ndec rfl (fun c37 => ?_) (fun c37 => ?_) | refine gc_cond rfl (fun c37 => ?_) (fun c37 => ?_)
          · exact absurd rfl c37
          · skip
            refine gc_skip ?_
            refine gc_region ?_
            refine g_ev (e_mv) ?_
            refine g_ev (e_add rfl rfl (wrap_id _ _ (by simp only [IntKind.min, IntKind.bits, IntKind.signed]; omega) (by simp only [IntKind.max, IntKind.bits, IntKind.signed]; omega))) ?_
            refine g_ev (e_as) ?_
            refine g_nil ?_
            refine Exists.intro (k + 1) (And.intro ⟨by omega, rfl, ?_, rfl⟩ (by omega))
            show Value.int _ _ = _; congr 1
        · skip
          refine gc_exit ?_
          refine gc_seq ?_
          refine gc_region ?_
          refine g_ev (e_as) ?_
          refine g_nil ?_
          refine gc_ret ?_
          exact ret1 rfl (by (conv => lhs; whnf); try rfl) ⟨rfl, rfl⟩ (fun _ h => h)


theorem info22 : Try.prog.info? 22 = some Try.t22 := by kernel_rfl
def mk (i k : Nat) : Value := .int .u8 (IntKind.u8.wrap (IntKind.i64.wrap (IntKind.i64.wrap (IntKind.i64.wrap (17 * (i : Int)) + IntKind.i64.wrap (5 * (k : Int))) + 3)))
def mks (i m : Nat) : List Value := (List.range m).map (mk i)
theorem mks_len (i m : Nat) : (mks i m).length = m := by simp [mks]
theorem mks_succ (i m : Nat) : mks i (m + 1) = mks i m ++ [mk i m] := by simp [mks, List.range_succ]
theorem mks_get {i m k : Nat} (h : k < m) : (mks i m)[k]? = some (mk i k) := by simp [mks, h]
theorem mks_le {i m n : Nat} (h : n ≤ m) : ∃ r, mks i m = mks i n ++ r := by
  refine ⟨(mks i m).drop n, ?_⟩
  have : mks i n = (mks i m).take n := by simp [mks, ← List.map_take, List.take_range, Nat.min_eq_left h]
  rw [this, List.take_append_drop]
def sv (bb ns cp : Nat → Nat) (j : Nat) : Value := .slice (some ⟨bb j, 0, none⟩) (ns j) (cp j)
def svs (N : Nat) (bb ns cp : Nat → Nat) : List Value := (List.range N).map (sv bb ns cp)
theorem svs_get {N i : Nat} {bb ns cp : Nat → Nat} (h : i < N) : (svs N bb ns cp)[i]? = some (sv bb ns cp i) := by simp [svs, h]
theorem svs_len (N : Nat) (bb ns cp : Nat → Nat) : (svs N bb ns cp).length = N := by simp [svs]
def owM (bb cp : Nat → Nat) (X : Nat → List Value) (j : Nat) (rest : List Value) : List HProp := [pr ((X j).length + rest.length = cp j), blk (bb j) 5 (X j ++ rest)]
def owF (bb cp : Nat → Nat) (X : Nat → List Value) (j : Nat) : HProp := exL (owM bb cp X j)
def XA (ns : Nat → Nat) (X0 : Nat → List Value) (i j : Nat) : List Value := if j < i then mks j (ns j) else X0 j
/-- grown[j], whose first m j places bear their marks; and lists[j]. -/
def PPm (bb ns cp m β γ : Nat → Nat) (j : Nat) : (List Value) ⊕ (List Value × List Value) → List HProp
  | .inl rest => [pr (β j = bb j ∧ γ j = cp j ∧ m j + rest.length = cp j ∧ ns j ≤ m j ∧ cp j ≤ maxLen), blk (bb j) 5 (mks j (m j) ++ rest)]
  | .inr (rest, rest') => [pr (m j + rest'.length = γ j ∧ ns j + rest.length = cp j ∧ ns j ≤ m j ∧ γ j ≤ maxLen), blk (β j) 5 (mks j (m j) ++ rest'), blk (bb j) 5 (mks j (ns j) ++ rest)]
def PP (bb ns cp m β γ : Nat → Nat) (j : Nat) : HProp := exL (PPm bb ns cp m β γ j)
theorem pr_cons {φ : Prop} {L : List HProp} {f} (h : sepL (pr φ :: L) f) : φ ∧ sepL L f := by
  obtain ⟨g, k, ⟨hp, hg⟩, hL, _, he⟩ := h
  have : f = k := funext fun b => by rw [he b, hg b]; simp
  exact ⟨hp, this ▸ hL⟩
theorem cons_pr {φ : Prop} {L : List HProp} {f} (hp : φ) (h : sepL L f) : sepL (pr φ :: L) f := ⟨fun _ => none, f, ⟨hp, fun _ => rfl⟩, h, fun _ => .inl rfl, fun _ => by simp⟩
def mm (ns : Nat → Nat) (n i j : Nat) : Nat := if j < i then ns j + n + 1 else ns j + n
theorem mm_zero {ns : Nat → Nat} {n : Nat} : mm ns n 0 = fun j => ns j + n := funext fun j => by simp [mm]
theorem mm_next {ns : Nat → Nat} {n i j : Nat} (h : j ≠ i) : mm ns n (i + 1) j = mm ns n i j := by
  unfold mm
  by_cases e : j < i
  · rw [if_pos e, if_pos (by omega)]
  · rw [if_neg e, if_neg (by omega)]
theorem mm_self {ns : Nat → Nat} {n i : Nat} : mm ns n (i + 1) i = mm ns n i i + 1 := by simp [mm]
theorem XA_next {ns : Nat → Nat} {X0 : Nat → List Value} {i j : Nat} (h : j ≠ i) : XA ns X0 (i + 1) j = XA ns X0 i j := by
  unfold XA
  by_cases e : j < i
  · rw [if_pos e, if_pos (by omega)]
  · rw [if_neg e, if_neg (by omega)]
theorem PP_congr {bb ns cp m m' β β' γ γ' : Nat → Nat} {j : Nat} (h1 : m j = m' j) (h2 : β j = β' j) (h3 : γ j = γ' j) : PP bb ns cp m β γ j = PP bb ns cp m' β' γ' j := by
  unfold PP
  congr 1
  funext x
  cases x <;> simp only [PPm, h1, h2, h3]
theorem svs_congr {N : Nat} {bb cp m m' : Nat → Nat} (h : ∀ j, j < N → m j = m' j) : svs N bb m cp = svs N bb m' cp := List.map_congr_left fun j hj => by simp only [sv, h j (List.mem_range.1 hj)]
theorem fam_congr {N : Nat} {f g : Nat → HProp} (h : ∀ j, j < N → f j = g j) : fam N f = fam N g := List.map_congr_left fun j hj => h j (by have := (List.mem_range'_1.1 hj).2; omega)
theorem or_of {α : Type} {x y : Option α} {o : α} {z : Option α} (h : x = none ∨ y = none) (hy : y = some o) : (x.or y).or z = some o := by
  rcases h with h | h
  · rw [h, hy]; rfl
  · rw [h] at hy; cases hy
theorem sat_fold {B w : World} {L1 F : List HProp} {A : HProp} (hA : ∀ f, sepL L1 f → A f) (s : Sat B w (L1 ++ F)) : Sat B w (A :: F) :=
  s.imp fun _ h => let ⟨g, k, h1, h2, h3, h4⟩ := sepL_append.1 h; ⟨g, k, hA g h1, h2, h3, h4⟩
theorem pp_open {P : Program} {B : World} {n : Nat} {K : Kont} {E : Env} {L L' : List HProp} {c : Code} {bb ns cp m β γ : Nat → Nat} {j : Nat} (hd : Del (PP bb ns cp m β γ j) L L')
    (h : ∀ restX FR, m j + restX.length = γ j → γ j ≤ maxLen →
      (∀ m' β' γ' : Nat → Nat, β' j = β j → γ' j = γ j → m' j = m j + 1 → ∀ r w F, m j + 1 + r.length = γ j → Sat B w (blk (β j) 5 (mks j (m j) ++ [mk j (m j)] ++ r) :: (FR ++ F)) → Sat B w (PP bb ns cp m' β' γ' j :: F)) →
      (∀ m' β' γ' : Nat → Nat, m' j = m j + 1 → ∀ r w F, m j + 1 + r.length = γ' j → γ' j ≤ maxLen → Sat B w (blk (β' j) 5 (mks j (m j) ++ [mk j (m j)] ++ r) :: blk (β j) 5 (mks j (m j) ++ restX) :: (FR ++ F)) → Sat B w (PP bb ns cp m' β' γ' j :: F)) →
      GC P B n c K E (blk (β j) 5 (mks j (m j) ++ restX) :: (FR ++ L'))) : GC P B n c K E L := by
  refine gc_open (PPm bb ns cp m β γ j) hd (fun _ h => h) fun x => ?_
  rcases x with rest | ⟨rest, rest'⟩
  · refine gc_pr .here fun ⟨h1, h2, h3, h4, h5⟩ => ?_
    have h0 := h rest [] (by omega) (by omega) ?_ ?_
    · rw [h1] at h0; exact h0
    · intro m' β' γ' e1 e2 e3 r w F hr hs
      rw [h1] at hs
      refine sat_fold (L1 := [_]) (fun f h => ⟨.inl r, cons_pr ⟨by omega, by omega, by omega, by omega, h5⟩ ?_⟩) hs
      rw [e3, mks_succ]; exact h
    · intro m' β' γ' e3 r w F hr hg hs
      rw [h1] at hs
      obtain ⟨q, hq⟩ := mks_le (i := j) h4
      refine sat_fold (L1 := [_, _]) (fun f h => ⟨.inr (q ++ rest, r), cons_pr ⟨by omega, by rw [← h3, ← mks_len j (m j), hq]; simp [mks_len]; omega, by omega, hg⟩ ?_⟩) hs
      rw [e3, mks_succ, ← List.append_assoc (mks j (ns j)), ← hq]; exact h
  · refine gc_pr .here fun ⟨h1, h2, h3, h4⟩ => ?_
    refine h rest' [blk (bb j) 5 (mks j (ns j) ++ rest)] (by omega) h4 ?_ ?_
    · intro m' β' γ' e1 e2 e3 r w F hr hs
      refine sat_fold (L1 := [_, _]) (fun f h => ⟨.inr (rest, r), cons_pr ⟨by omega, h2, by omega, by omega⟩ ?_⟩) hs
      rw [e3, e1, mks_succ]; exact h
    · intro m' β' γ' e3 r w F hr hg hs
      have hs2 := (hs.imp fun _ => sepL_swap).tail
      refine sat_fold (L1 := [_, _]) (fun f h => ⟨.inr (rest, r), cons_pr ⟨by omega, h2, by omega, hg⟩ ?_⟩) hs2
      rw [e3, mks_succ]; exact h
theorem pp_cells {B w : World} {L L' : List HProp} {bb ns cp m β γ : Nat → Nat} {j : Nat} (s : Sat B w L) (hd : Del (PP bb ns cp m β γ j) L L') :
    (∀ k, k < m j → w.cell? ⟨β j, k, none⟩ = some (mk j k)) ∧ ∀ k, k < ns j → w.cell? ⟨bb j, k, none⟩ = some (mk j k) := by
  obtain ⟨f, ⟨g, h, ⟨x, hx⟩, hL, hdj, he⟩, hf⟩ := (s.front hd).heap
  rcases x with rest | ⟨rest, rest'⟩
  · obtain ⟨⟨h1, h2, h3, h4, h5⟩, h6⟩ := pr_cons hx
    have hb : w.heap[bb j]? = some _ := hf _ _ (by rw [he, (sepL_one h6).1]; rfl)
    refine ⟨fun k hk => ?_, fun k hk => ?_⟩
    · rw [h1, cell_blk hb, List.getElem?_append_left (by rw [mks_len]; exact hk), mks_get hk]
    · rw [cell_blk hb, List.getElem?_append_left (by rw [mks_len]; omega), mks_get (by omega)]
  · obtain ⟨⟨h1, h2, h3, h4⟩, h6⟩ := pr_cons hx
    obtain ⟨g1, g2, h7, h8, h9, h10⟩ := h6
    have hb : w.heap[β j]? = some _ := hf _ _ (by rw [he, h10, h7.1]; rfl)
    have hb2 : w.heap[bb j]? = some _ := hf _ _ (by rw [he, h10]; exact or_of (h9 (bb j)) (sepL_one h8).1)
    refine ⟨fun k hk => ?_, fun k hk => ?_⟩
    · rw [cell_blk hb, List.getElem?_append_left (by rw [mks_len]; exact hk), mks_get hk]
    · rw [cell_blk hb2, List.getElem?_append_left (by rw [mks_len]; exact hk), mks_get hk]

theorem apart_t {N bl : Nat} {bb ns cp : Nat → Nat} {X0 : Nat → List Value} (hN : 0 < N) (hN2 : N ≤ 1000) (hns : ∀ j, j < N → ns j ≤ 140737488351232) (hcp : ∀ j, j < N → cp j ≤ maxLen) (hX : ∀ j, j < N → (X0 j).length = ns j) : Tri Try.prog 10 #[.slice (some ⟨bl, 0, none⟩) N N] (blk bl 22 (svs N bb ns cp) :: fam N (owF bb cp X0)) (isR (.bool true) []) := by
  refine tri_of Try.call10 Try.func10 rfl fun B F => ?_
  refine gc_seq ?_
  refine gc_region ?_
  refine g_ev (e_as) ?_
  refine g_nil ?_
  refine gc_seq ?_
  refine gc_seq ?_
  refine gc_region ?_
  refine g_ev (e_as) ?_
  refine g_nil ?_
  refine gc_block ?_
  refine gc_loop (α := Nat) (fun i E L => i ≤ N ∧ E 0 = Value.slice (some ⟨bl, 0, none⟩) N N ∧ E 3 = .int .i64 (i : Int) ∧ L = blk bl 22 (svs N bb ns cp) :: (fam N (owF bb cp (XA ns X0 i)) ++ F)) (fun i => N - i) 0 ?_ ?_
  · refine ⟨Nat.zero_le _, rfl, rfl, ?_⟩
    rw [show XA ns X0 0 = X0 from funext fun j => by simp [XA]]; rfl
  · rintro i E L ⟨hi, h0, h3, rfl⟩
    refine gc_slot 0 _ ?_ h0
    refine gc_slot 3 _ ?_ h3
    refine gc_seq ?_
    refine gc_seq ?_
    refine gc_region ?_
    refine g_ev (e_mv) ?_
    refine g_ev (e_mv) ?_
    refine g_ev (e_len Try.underlying33 rfl) ?_
    refine g_ev (e_lt rfl rfl) ?_
    refine g_nil ?_
    first | refine gc_dec rfl (fun c14 => ?_) (fun c14 => ?_) | refine gc_ndec rfl (fun c14 => ?_) (fun c14 => ?_) | refine gc_cond rfl (fun c14 => ?_) (fun c14 => ?_)
    · skip
      refine gc_skip ?_
      refine gc_seq ?_
      refine gc_block ?_
      refine gc_seq ?_
      refine gc_region ?_
      have hlt : i < N := by omega
      obtain ⟨M, hM1, hM2⟩ := del_fam (owF bb cp (XA ns X0 i)) hlt
      refine g_pick (.cons (.there hM1.append) .nil) ?_
      refine g_open (owM bb cp (XA ns X0 i) i) .here (fun _ h => h) fun rest => ?_
      refine g_pr .here fun hrest => ?_
      have hXi : (XA ns X0 i i).length = ns i := by simp [XA, hX i hlt]
      have hci := hcp i hlt
      have hni := hns i hlt
      refine g_ev (e_as) ?_
      refine g_nil ?_
      refine gc_block ?_
      refine gc_loop (α := Nat) (fun k E L => ∃ xr, k ≤ ns i ∧ xr.length + k = cp i ∧ E 0 = Value.slice (some ⟨bl, 0, none⟩) N N ∧ E 3 = .int .i64 (i : Int) ∧ E 4 = .int .i64 (k : Int) ∧ L = blk (bb i) 5 (mks i k ++ xr) :: blk bl 22 (svs N bb ns cp) :: (M ++ F)) (fun k => ns i - k) 0 ?_ ?_
      · exact ⟨XA ns X0 i i ++ rest, Nat.zero_le _, by simp [hrest], rfl, rfl, rfl, rfl⟩
      · rintro k E L ⟨xr, hk, hxr, h0, h3, h4, rfl⟩
        refine gc_slot 0 _ ?_ h0
        refine gc_slot 3 _ ?_ h3
        refine gc_slot 4 _ ?_ h4
        refine gc_seq ?_
        refine gc_seq ?_
        refine gc_region ?_
        refine g_ev (e_mv) ?_
        refine g_ev (e_mv) ?_
        refine g_ev (e_mv) ?_
        refine g_ev (e_ia Try.underlying33 Try.sizeOf22 rfl rfl rfl (by omega)) ?_
        refine g_ev (e_ld (v := sv bb ns cp i) Try.underlying22 rfl (by repeat ((conv => arg 2; whnf); first | with_reducible exact .here | ((with_reducible refine Del.hereC ?_); rfl) | ((with_reducible refine Del.hereS ?_ ?_ ?_) <;> rfl) | exact .here | apply Del.there)) (svs_get hlt)) ?_
        refine g_ev (e_len Try.underlying22 rfl) ?_
        refine g_ev (e_lt rfl rfl) ?_
        refine g_nil ?_
        first | refine gc_dec rfl (fun c23 => ?_) (fun c23 => ?_) | refine gc_ndec rfl (fun c23 => ?_) (fun c23 => ?_) | refine gc_cond rfl (fun c23 => ?_) (fun c23 => ?_)
        · skip
          refine gc_skip ?_
          refine gc_seq ?_
          refine gc_block ?_
          refine gc_draw (fin := none) (plan := [(true, 0), (true, 1), (true, 2), (true, 3), (true, 4), (true, 5), (true, 6), (false, 7), (true, 8), (false, 9)]) rfl (by kernel_rfl) (by kernel_rfl) rfl (.cons .here .nil) ?_
          refine gp_ev rfl (e_mv) ?_
          refine gp_ev rfl (e_mv) ?_
          refine gp_ev rfl (e_ia Try.underlying33 Try.sizeOf22 rfl rfl rfl (by omega)) ?_
          refine gp_ev rfl (e_ld (v := sv bb ns cp i) Try.underlying22 rfl (by repeat ((conv => arg 2; whnf); first | with_reducible exact .here | ((with_reducible refine Del.hereC ?_); rfl) | ((with_reducible refine Del.hereS ?_ ?_ ?_) <;> rfl) | exact .here | apply Del.there)) (svs_get hlt)) ?_
          refine gp_ev rfl (e_mv) ?_
          refine gp_ev rfl (e_mv) ?_
          refine gp_ev rfl (e_mv) ?_
          refine gp_eff rfl (s_call (mark_t ((i : Nat) : Int) ((k : Nat) : Int)) .nil) ?_
          rintro _ _ ⟨_, ⟨rfl, rfl⟩, rfl⟩
          refine gp_ev rfl (e_ia Try.underlying22 Try.sizeOf5 rfl rfl (q := k) rfl (by omega)) ?_
          refine gp_eff rfl (s_st Try.sizeOf5 rfl .here (hlt := by simp only [List.length_append, mks_len]; omega)) ?_
          rintro _ _ ⟨rfl, rfl⟩
          refine gp_nil ?_
          refine gc_region ?_
          refine g_ev (e_mv) ?_
          refine g_ev (e_add rfl rfl (wrap_id _ _ (by simp only [IntKind.min, IntKind.bits, IntKind.signed]; omega) (by simp only [IntKind.max, IntKind.bits, IntKind.signed]; omega))) ?_
          refine g_ev (e_as) ?_
          refine g_nil ?_
          obtain ⟨x, xr, rfl⟩ : ∃ x y, xr = x :: y := by cases xr with
            | nil => simp at hxr; omega
            | cons x y => exact ⟨x, y, rfl⟩
          refine Exists.intro (k + 1) (And.intro ⟨xr, by omega, by simp at hxr; omega, rfl, rfl, rfl, ?_⟩ (by omega))
          rw [List.set_append_right _ _ (by simp [mks_len]), mks_len, Nat.sub_self, List.set_cons_zero, mks_succ, List.append_assoc]; rfl
        · skip
          refine gc_exit ?_
          refine gc_region ?_
          obtain rfl : k = ns i := by omega
          refine g_imp (L' := blk bl 22 (svs N bb ns cp) :: (fam N (owF bb cp (XA ns X0 (i + 1))) ++ F)) (fun w h => ?_) ?_
          · have h1 := (h.imp fun _ => sepL_swap).imp fun _ => sepL_mono (fun _ h => h) (fun _ => sepL_mono (A' := owF bb cp (XA ns X0 (i + 1)) i) (fun f h => ⟨xr, cons_pr (by simp [XA, mks_len]; omega) (one_sepL (by simpa [XA] using h))⟩) fun _ h => h)
            exact h1.imp fun _ => sepL_mono (fun _ h => h) fun _ h => (hM2 (owF bb cp (XA ns X0 (i + 1))) (fun j hj => by unfold owF owM; rw [XA_next hj])).append.back h
          refine g_ev (e_mv) ?_
          refine g_ev (e_add rfl rfl (wrap_id _ _ (by simp only [IntKind.min, IntKind.bits, IntKind.signed]; omega) (by simp only [IntKind.max, IntKind.bits, IntKind.signed]; omega))) ?_
          refine g_ev (e_as) ?_
          refine g_nil ?_
          exact Exists.intro (i + 1) (And.intro ⟨by omega, rfl, rfl, rfl⟩ (by omega))
    · skip
      refine gc_exit ?_
      refine gc_seq ?_
      refine gc_region ?_
      refine g_eff (s_bs0 Try.underlying33 Try.sizeOf22) ?_
      rintro _ _ ⟨b35, rfl, rfl⟩
      refine g_ev (e_mv) ?_
      refine g_eff (s_ap0 (k := 1) (bytes := 24) Try.underlying33 info22 rfl rfl rfl rfl (by decide) rfl rfl .here (fun B w h => h.rdsb0 (.there .here) (svs_len _ _ _ _)) (fun u hu => by obtain ⟨j, _, rfl⟩ := List.mem_map.1 hu; rfl) (by omega) (by unfold maxLen; omega)) ?_
      rintro _ _ ⟨a2, c2, rfl, rfl, hnil⟩
      refine g_own (m := N) (v := .slice a2 N c2) (e := 22) (k := 1) (xs := svs N bb ns cp) hN .here fun bg cg rg hv hv1 hv2 hv3 hv4 => ?_
      cases hv
      refine g_ev (e_as) ?_
      refine g_nil ?_
      refine gc_seq ?_
      refine gc_seq ?_
      refine gc_region ?_
      obtain rfl : N = i := by omega
      refine g_imp (L' := blk bg 22 (svs N bb ns cp ++ rg) :: blk bl 22 (svs N bb ns cp) :: (fam N (PP bb ns cp ns bb cp) ++ F)) (fun w h => h.imp fun _ => sepL_mono (fun _ h => h) fun _ => sepL_mono (fun _ h => h) fun _ => fam_mono N 0 fun j _ hj f hf => ?_) ?_
      · obtain ⟨rest, hr⟩ := hf
        obtain ⟨h1, h2⟩ := pr_cons hr
        have h3 : XA ns X0 N j = mks j (ns j) := by simp [XA, show j < N by omega]
        rw [h3] at h1 h2
        exact ⟨.inl rest, cons_pr ⟨rfl, rfl, by rw [← h1, mks_len], Nat.le_refl _, hcp j (by omega)⟩ h2⟩
      refine g_ev (e_as) ?_
      refine g_nil ?_
      refine gc_block ?_
      refine gc_loop (α := Nat) (fun n E L => ∃ β γ, n ≤ 40 ∧ E 0 = Value.slice (some ⟨bl, 0, none⟩) N N ∧ E 5 = .slice (some ⟨bg, 0, none⟩) N c2 ∧ E 6 = .int .i64 (n : Int) ∧ L = blk bg 22 (svs N β (fun j => ns j + n) γ ++ rg) :: blk bl 22 (svs N bb ns cp) :: (fam N (PP bb ns cp (fun j => ns j + n) β γ) ++ F)) (fun n => 40 - n) 0 ?_ ?_
      · exact ⟨bb, cp, by omega, rfl, rfl, rfl, rfl⟩
      · rintro n E L ⟨β, γ, hn, h0, h5, h6, rfl⟩
        refine gc_slot 0 _ ?_ h0
        refine gc_slot 5 _ ?_ h5
        refine gc_slot 6 _ ?_ h6
        refine gc_seq ?_
        refine gc_seq ?_
        refine gc_region ?_
        refine g_ev (e_mv) ?_
        refine g_ev (e_lt rfl rfl) ?_
        refine g_nil ?_
        first | refine gc_dec rfl (fun c39 => ?_) (fun c39 => ?_) | refine gc_ndec rfl (fun c39 => ?_) (fun c39 => ?_) | refine gc_cond rfl (fun c39 => ?_) (fun c39 => ?_)
        · skip
          refine gc_skip ?_
          refine gc_seq ?_
          refine gc_block ?_
          refine gc_seq ?_
          refine gc_region ?_
          refine g_ev (e_as) ?_
          refine g_nil ?_
          refine gc_block ?_
          refine gc_loop (α := Nat) (fun i E L => ∃ β γ, i ≤ N ∧ E 0 = Value.slice (some ⟨bl, 0, none⟩) N N ∧ E 5 = .slice (some ⟨bg, 0, none⟩) N c2 ∧ E 6 = .int .i64 (n : Int) ∧ E 7 = .int .i64 (i : Int) ∧ L = blk bg 22 (svs N β (mm ns n i) γ ++ rg) :: blk bl 22 (svs N bb ns cp) :: (fam N (PP bb ns cp (mm ns n i) β γ) ++ F)) (fun i => N - i) 0 ?_ ?_
          · exact ⟨β, γ, Nat.zero_le _, rfl, rfl, rfl, rfl, by rw [mm_zero]⟩
          · rintro i E L ⟨β, γ, hi, h0, h5, h6, h7, rfl⟩
            refine gc_slot 0 _ ?_ h0
            refine gc_slot 5 _ ?_ h5
            refine gc_slot 6 _ ?_ h6
            refine gc_slot 7 _ ?_ h7
            refine gc_seq ?_
            refine gc_seq ?_
            refine gc_region ?_
            refine g_ev (e_mv) ?_
            refine g_ev (e_mv) ?_
            refine g_ev (e_len Try.underlying33 rfl) ?_
            refine g_ev (e_lt rfl rfl) ?_
            refine g_nil ?_
            first | refine gc_dec rfl (fun c45 => ?_) (fun c45 => ?_) | refine gc_ndec rfl (fun c45 => ?_) (fun c45 => ?_) | refine gc_cond rfl (fun c45 => ?_) (fun c45 => ?_)
            · skip
              refine gc_skip ?_
              refine gc_seq ?_
              refine gc_block ?_
              have hlt : i < N := by omega
              have hni := hns i hlt
              obtain ⟨M, hM1, hM2⟩ := del_fam (PP bb ns cp (mm ns n i) β γ) hlt
              have hmi : mm ns n i i = ns i + n := by simp [mm]
              refine pp_open (.there (.there hM1.append)) fun restX FR hrX hgX hB1 hB2 => ?_
              refine gc_imp (L' := blk (β i) 5 (mks i (mm ns n i i) ++ restX) :: blk bg 22 (svs N β (mm ns n i) γ ++ rg) :: blk bl 22 (svs N bb ns cp) :: (FR ++ (M ++ F))) (fun w h => h.imp fun _ => sepL_mono (fun _ h => h) fun _ => (Pick.cons (Del.mid .here) (.cons (Del.mid .here) .nil)).to) ?_
              refine gc_draw (fin := some 16) (plan := [(true, 0), (true, 1), (true, 2), (true, 3), (true, 4), (true, 5), (true, 6), (true, 7), (true, 8), (true, 9), (true, 10), (true, 11), (false, 12), (false, 13), (false, 14), (true, 15), (false, 16)]) rfl (by kernel_rfl) (by kernel_rfl) rfl (.cons .here .nil) ?_
              refine gp_ev rfl (e_mv) ?_
              refine gp_ev rfl (e_mv) ?_
              refine gp_ev rfl (e_mv) ?_
              refine gp_ev rfl (e_mv) ?_
              refine gp_ev rfl (e_ia Try.underlying33 Try.sizeOf22 rfl rfl rfl (by omega)) ?_
              refine gp_ev rfl (e_ld (v := sv β (mm ns n i) γ i) Try.underlying22 rfl (by repeat ((conv => arg 2; whnf); first | with_reducible exact .here | ((with_reducible refine Del.hereC ?_); rfl) | ((with_reducible refine Del.hereS ?_ ?_ ?_) <;> rfl) | exact .here | apply Del.there)) (by rw [List.getElem?_append_left (by rw [svs_len]; exact hlt)]; exact svs_get hlt)) ?_
              refine gp_ev rfl (e_mv) ?_
              refine gp_ev rfl (e_mv) ?_
              refine gp_ev rfl (e_mv) ?_
              refine gp_ev rfl (e_ia Try.underlying33 Try.sizeOf22 rfl rfl rfl (by omega)) ?_
              refine gp_ev rfl (e_ld (v := sv β (mm ns n i) γ i) Try.underlying22 rfl (by repeat ((conv => arg 2; whnf); first | with_reducible exact .here | ((with_reducible refine Del.hereC ?_); rfl) | ((with_reducible refine Del.hereS ?_ ?_ ?_) <;> rfl) | exact .here | apply Del.there)) (by rw [List.getElem?_append_left (by rw [svs_len]; exact hlt)]; exact svs_get hlt)) ?_
              refine gp_ev rfl (e_len Try.underlying22 rfl) ?_
              refine gp_eff rfl (s_call (mark_t ((i : Nat) : Int) ((mm ns n i i : Nat) : Int)) .nil) ?_
              rintro _ _ ⟨_, ⟨rfl, rfl⟩, rfl⟩
              refine gp_eff rfl (s_bs Try.underlying22 Try.sizeOf5 Try.zeroValue5 rfl) ?_
              rintro _ _ ⟨b61, rfl, rfl⟩
              refine gp_eff rfl (s_apb (bytes := 1) (news := [mk i (mm ns n i i)]) Try.underlying22 info5 rfl rfl rfl rfl rfl rfl (.there .here) (mks_len _ _) hrX hgX (fun B w h => h.rdsb0 .here rfl) rfl (by simp [mk, Value.oneCell']) (by omega) (by unfold maxLen; omega)) ?_
              rintro _ _ ⟨b2, cx, r2, OLD, rfl, h2, h3, rfl, hOLD⟩
              refine gp_imp (D' := _ :: (OLD ++ [])) (fun w h => (h.front (.there (Del.append (Del.mid .here)))).tail) ?_
              refine gp_ev rfl (e_ia Try.underlying33 Try.sizeOf22 rfl rfl rfl (by omega)) ?_
              refine gp_fin rfl (s_st Try.sizeOf22 rfl (Turn.mid .here) (hlt := by simp only [List.length_append, svs_len]; omega)) ?_
              rintro _ _ ⟨rfl, rfl⟩
              refine gp_nil ?_
              refine gc_region ?_
              refine g_imp (L' := blk bg 22 (svs N (fun j => if j = i then b2 else β j) (mm ns n (i + 1)) (fun j => if j = i then cx else γ j) ++ rg) :: blk bl 22 (svs N bb ns cp) :: (fam N (PP bb ns cp (mm ns n (i + 1)) (fun j => if j = i then b2 else β j) (fun j => if j = i then cx else γ j)) ++ F)) (fun w h => ?_) ?_
              · have hset : (svs N β (mm ns n i) γ ++ rg).set i (.slice (some ⟨b2, 0, none⟩) (mm ns n i i + 1) cx) = svs N (fun j => if j = i then b2 else β j) (mm ns n (i + 1)) (fun j => if j = i then cx else γ j) ++ rg := by
                  rw [List.set_append_left _ _ (by rw [svs_len]; exact hlt)]
                  congr 1
                  unfold svs
                  rw [map_set_range]
                  refine List.map_congr_left fun j _ => ?_
                  by_cases e : j = i
                  · subst e; simp [sv, mm]
                  · rw [if_neg e]; simp only [sv, if_neg e, mm_next e]
                rw [← hset]
                have h1 : Sat B w ((blk b2 5 (mks i (mm ns n i i) ++ [mk i (mm ns n i i)] ++ r2) :: OLD) ++ (blk bg 22 ((svs N β (mm ns n i) γ ++ rg).set i (.slice (some ⟨b2, 0, none⟩) (mm ns n i i + 1) cx)) :: blk bl 22 (svs N bb ns cp) :: (FR ++ (M ++ F)))) := by simpa using h
                have h4 : ∀ w, Sat B w (PP bb ns cp (mm ns n (i + 1)) (fun j => if j = i then b2 else β j) (fun j => if j = i then cx else γ j) i :: blk bg 22 ((svs N β (mm ns n i) γ ++ rg).set i (.slice (some ⟨b2, 0, none⟩) (mm ns n i i + 1) cx)) :: blk bl 22 (svs N bb ns cp) :: (M ++ F)) → Sat B w (blk bg 22 ((svs N β (mm ns n i) γ ++ rg).set i (.slice (some ⟨b2, 0, none⟩) (mm ns n i i + 1) cx)) :: blk bl 22 (svs N bb ns cp) :: (fam N (PP bb ns cp (mm ns n (i + 1)) (fun j => if j = i then b2 else β j) (fun j => if j = i then cx else γ j)) ++ F)) := fun w h =>
                  (h.imp fun _ => sepL_swap).imp fun _ => sepL_mono (fun _ h => h) fun _ h => sepL_mono (fun _ h => h) (fun _ h => (hM2 _ (fun j hj => PP_congr (mm_next hj) (if_neg hj) (if_neg hj))).append.back h) (sepL_swap h)
                have hp : ∀ X : List HProp, (blk bg 22 ((svs N β (mm ns n i) γ ++ rg).set i (.slice (some ⟨b2, 0, none⟩) (mm ns n i i + 1) cx)) :: blk bl 22 (svs N bb ns cp) :: (FR ++ X)).Perm (FR ++ (blk bg 22 ((svs N β (mm ns n i) γ ++ rg).set i (.slice (some ⟨b2, 0, none⟩) (mm ns n i i + 1) cx)) :: blk bl 22 (svs N bb ns cp) :: X)) := fun X => (List.perm_middle.symm.cons _).trans List.perm_middle.symm
                refine h4 w ?_
                rcases hOLD with ⟨rfl, hb, hc⟩ | rfl
                · subst hb; subst hc
                  exact hB1 (mm ns n (i + 1)) (fun j => if j = i then β i else β j) (fun j => if j = i then γ i else γ j) (if_pos rfl) (if_pos rfl) mm_self r2 w _ (by omega) (h1.perm ((hp _).cons _))
                · have := hB2 (mm ns n (i + 1)) (fun j => if j = i then b2 else β j) (fun j => if j = i then cx else γ j) mm_self r2 w (blk bg 22 ((svs N β (mm ns n i) γ ++ rg).set i (.slice (some ⟨b2, 0, none⟩) (mm ns n i i + 1) cx)) :: blk bl 22 (svs N bb ns cp) :: (M ++ F)) (by rw [if_pos rfl]; omega) (by rw [if_pos rfl]; exact h3) (by rw [if_pos rfl]; exact h1.perm (((hp _).cons _).cons _))
                  exact this
              refine g_ev (e_mv) ?_
              refine g_ev (e_add rfl rfl (wrap_id _ _ (by simp only [IntKind.min, IntKind.bits, IntKind.signed]; omega) (by simp only [IntKind.max, IntKind.bits, IntKind.signed]; omega))) ?_
              refine g_ev (e_as) ?_
              refine g_nil ?_
              exact Exists.intro (i + 1) (And.intro ⟨_, _, by omega, rfl, rfl, rfl, rfl, rfl⟩ (by omega))
            · skip
              refine gc_exit ?_
              refine gc_region ?_
              refine g_ev (e_mv) ?_
              refine g_ev (e_add rfl rfl (wrap_id _ _ (by simp only [IntKind.min, IntKind.bits, IntKind.signed]; omega) (by simp only [IntKind.max, IntKind.bits, IntKind.signed]; omega))) ?_
              refine g_ev (e_as) ?_
              refine g_nil ?_
              refine Exists.intro (n + 1) (And.intro ⟨β, γ, by omega, rfl, rfl, rfl, ?_⟩ (by omega))
              obtain rfl : N = i := by omega
              rw [svs_congr (m' := fun j => ns j + (n + 1)) fun j hj => by simp [mm, hj]; omega, fam_congr (g := PP bb ns cp (fun j => ns j + (n + 1)) β γ) fun j hj => PP_congr (by simp [mm, hj]; omega) rfl rfl]
        · skip
          refine gc_exit ?_
          refine gc_seq ?_
          refine gc_seq ?_
          refine gc_region ?_
          obtain rfl : n = 40 := by omega
          obtain ⟨L3, hL3⟩ : ∃ L3, L3 = blk bg 22 (svs N β (fun j => ns j + 40) γ ++ rg) :: blk bl 22 (svs N bb ns cp) :: (fam N (PP bb ns cp (fun j => ns j + 40) β γ) ++ F) := ⟨_, rfl⟩
          rw [← hL3]
          obtain ⟨L31, hb1⟩ : ∃ L31, Del (blk bg 22 (svs N β (fun j => ns j + 40) γ ++ rg)) L3 L31 := by rw [hL3]; exact ⟨_, .here⟩
          obtain ⟨L32, hb2⟩ : ∃ L32, Del (blk bl 22 (svs N bb ns cp)) L3 L32 := by rw [hL3]; exact ⟨_, .there .here⟩
          have hcell : ∀ i, i < N → ∀ B w, Sat B w L3 → (∀ k, k < ns i + 40 → w.cell? ⟨β i, k, none⟩ = some (mk i k)) ∧ ∀ k, k < ns i → w.cell? ⟨bb i, k, none⟩ = some (mk i k) := fun i hi B w s => by
            obtain ⟨M, hM, _⟩ := del_fam (PP bb ns cp (fun j => ns j + 40) β γ) hi
            subst hL3
            exact pp_cells s (.there (.there hM.append))
          have hdrop : ∀ w, Sat B w L3 → Sat B w ([] ++ F) := fun w s => by subst hL3; exact s.tail.tail.right
          refine g_ev (e_as) ?_
          refine g_nil ?_
          refine gc_block ?_
          refine gc_loop (α := Nat) (fun i E L => i ≤ N ∧ E 0 = Value.slice (some ⟨bl, 0, none⟩) N N ∧ E 5 = .slice (some ⟨bg, 0, none⟩) N c2 ∧ E 8 = .int .i64 (i : Int) ∧ L = L3) (fun i => N - i) 0 ?_ ?_
          · exact ⟨Nat.zero_le _, rfl, rfl, rfl, rfl⟩
          · rintro i E L ⟨hi, h0, h5, h8, hLL⟩
            rw [hLL]
            refine gc_slot 0 _ ?_ h0
            refine gc_slot 5 _ ?_ h5
            refine gc_slot 8 _ ?_ h8
            refine gc_seq ?_
            refine gc_seq ?_
            refine gc_region ?_
            refine g_ev (e_mv) ?_
            refine g_ev (e_mv) ?_
            refine g_ev (e_len Try.underlying33 rfl) ?_
            refine g_ev (e_lt rfl rfl) ?_
            refine g_nil ?_
            first | refine gc_dec rfl (fun c67 => ?_) (fun c67 => ?_) | refine gc_ndec rfl (fun c67 => ?_) (fun c67 => ?_) | refine gc_cond rfl (fun c67 => ?_) (fun c67 => ?_)
            · skip
              refine gc_skip ?_
              refine gc_seq ?_
              refine gc_block ?_
              refine gc_seq ?_
              refine gc_seq ?_
              refine gc_region ?_
              refine g_ev (e_as) ?_
              refine g_nil ?_
              refine gc_block ?_
              refine gc_loop (α := Nat) (fun k E L => k ≤ ns i + 40 ∧ E 0 = Value.slice (some ⟨bl, 0, none⟩) N N ∧ E 5 = .slice (some ⟨bg, 0, none⟩) N c2 ∧ E 8 = .int .i64 (i : Int) ∧ E 9 = .int .i64 (k : Int) ∧ L = L3) (fun k => ns i + 40 - k) 0 ?_ ?_
              · exact ⟨Nat.zero_le _, rfl, rfl, rfl, rfl, rfl⟩
              · rintro k E L ⟨hk, h0, h5, h8, h9, hLL⟩
                rw [hLL]
                refine gc_slot 0 _ ?_ h0
                refine gc_slot 5 _ ?_ h5
                refine gc_slot 8 _ ?_ h8
                refine gc_slot 9 _ ?_ h9
                refine gc_seq ?_
                refine gc_seq ?_
                refine gc_region ?_
                have hlt : i < N := by omega
                have hni := hns i hlt
                refine g_ev (e_mv) ?_
                refine g_ev (e_mv) ?_
                refine g_ev (e_mv) ?_
                refine g_ev (e_ia Try.underlying33 Try.sizeOf22 rfl rfl rfl (by omega)) ?_
                refine g_ev (e_ld (v := .slice (some ⟨β i, 0, none⟩) (ns i + 40) (γ i)) Try.underlying22 rfl hb1 (by rw [List.getElem?_append_left (by rw [svs_len]; exact hlt)]; exact svs_get hlt)) ?_
                refine g_ev (e_len Try.underlying22 rfl) ?_
                refine g_ev (e_lt rfl rfl) ?_
                refine g_nil ?_
                first | refine gc_dec rfl (fun c76 => ?_) (fun c76 => ?_) | refine gc_ndec rfl (fun c76 => ?_) (fun c76 => ?_) | refine gc_cond rfl (fun c76 => ?_) (fun c76 => ?_)
                · skip
                  refine gc_skip ?_
                  refine gc_seq ?_
                  refine gc_block ?_
                  refine gc_seq ?_
                  refine gc_draw (fin := none) (plan := [(true, 0), (true, 1), (true, 2), (true, 3), (true, 4), (true, 5), (true, 6), (true, 7), (true, 8), (false, 9), (true, 10)]) rfl (by kernel_rfl) (by kernel_rfl) rfl .nil ?_
                  refine gp_ev rfl (e_mv) ?_
                  refine gp_ev rfl (e_mv) ?_
                  refine gp_ev rfl (e_ia Try.underlying33 Try.sizeOf22 rfl rfl rfl (by omega)) ?_
                  refine gp_ev rfl (e_ld (v := .slice (some ⟨β i, 0, none⟩) (ns i + 40) (γ i)) Try.underlying22 rfl hb1 (by rw [List.getElem?_append_left (by rw [svs_len]; exact hlt)]; exact svs_get hlt)) ?_
                  refine gp_ev rfl (e_mv) ?_
                  refine gp_ev rfl (e_ia Try.underlying22 Try.sizeOf5 rfl rfl rfl (by omega)) ?_
                  refine gp_ev rfl (e_ldc (v := mk i k) Try.underlying5 rfl (fun B w h => (hcell i hlt B w h).1 k (by omega))) ?_
                  refine gp_ev rfl (e_mv) ?_
                  refine gp_ev rfl (e_mv) ?_
                  refine gp_eff rfl (s_call (mark_t ((i : Nat) : Int) ((k : Nat) : Int)) .nil) ?_
                  rintro _ _ ⟨_, ⟨rfl, rfl⟩, rfl⟩
                  refine gp_ev rfl (e_ne rfl rfl) ?_
                  refine gp_nil ?_
                  first | refine gc_dec rfl (fun c89 => ?_) (fun c89 => ?_) | refine gc_ndec rfl (fun c89 => ?_) (fun c89 => ?_) | refine gc_cond rfl (fun c89 => ?_) (fun c89 => ?_)
                  · exact absurd rfl c89
                  · skip
                    refine gc_skip ?_
                    refine gc_region ?_
                    refine g_ev (e_mv) ?_
                    refine g_ev (e_add rfl rfl (wrap_id _ _ (by simp only [IntKind.min, IntKind.bits, IntKind.signed]; omega) (by simp only [IntKind.max, IntKind.bits, IntKind.signed]; omega))) ?_
                    refine g_ev (e_as) ?_
                    refine g_nil ?_
                    exact Exists.intro (k + 1) (And.intro ⟨by omega, rfl, rfl, rfl, rfl, rfl⟩ (by omega))
                · skip
                  refine gc_exit ?_
                  refine gc_seq ?_
                  refine gc_region ?_
                  refine g_ev (e_as) ?_
                  refine g_nil ?_
                  refine gc_block ?_
                  refine gc_loop (α := Nat) (fun q E L => q ≤ ns i ∧ E 0 = Value.slice (some ⟨bl, 0, none⟩) N N ∧ E 5 = .slice (some ⟨bg, 0, none⟩) N c2 ∧ E 8 = .int .i64 (i : Int) ∧ E 10 = .int .i64 (q : Int) ∧ L = L3) (fun q => ns i - q) 0 ?_ ?_
                  · exact ⟨Nat.zero_le _, rfl, rfl, rfl, rfl, rfl⟩
                  · rintro q E L ⟨hq, h0, h5, h8, h10, hLL⟩
                    rw [hLL]
                    refine gc_slot 0 _ ?_ h0
                    refine gc_slot 5 _ ?_ h5
                    refine gc_slot 8 _ ?_ h8
                    refine gc_slot 10 _ ?_ h10
                    refine gc_seq ?_
                    refine gc_seq ?_
                    refine gc_region ?_
                    refine g_ev (e_mv) ?_
                    refine g_ev (e_mv) ?_
                    refine g_ev (e_mv) ?_
                    refine g_ev (e_ia Try.underlying33 Try.sizeOf22 rfl rfl rfl (by omega)) ?_
                    refine g_ev (e_ld (v := sv bb ns cp i) Try.underlying22 rfl hb2 (svs_get hlt)) ?_
                    refine g_ev (e_len Try.underlying22 rfl) ?_
                    refine g_ev (e_lt rfl rfl) ?_
                    refine g_nil ?_
                    first | refine gc_dec rfl (fun c96 => ?_) (fun c96 => ?_) | refine gc_ndec rfl (fun c96 => ?_) (fun c96 => ?_) | refine gc_cond rfl (fun c96 => ?_) (fun c96 => ?_)
                    · skip
                      refine gc_skip ?_
                      refine gc_seq ?_
                      refine gc_block ?_
                      refine gc_seq ?_
                      refine gc_draw (fin := none) (plan := [(true, 0), (true, 1), (true, 2), (true, 3), (true, 4), (true, 5), (true, 6), (true, 7), (true, 8), (false, 9), (true, 10)]) rfl (by kernel_rfl) (by kernel_rfl) rfl .nil ?_
                      refine gp_ev rfl (e_mv) ?_
                      refine gp_ev rfl (e_mv) ?_
                      refine gp_ev rfl (e_ia Try.underlying33 Try.sizeOf22 rfl rfl rfl (by omega)) ?_
                      refine gp_ev rfl (e_ld (v := sv bb ns cp i) Try.underlying22 rfl hb2 (svs_get hlt)) ?_
                      refine gp_ev rfl (e_mv) ?_
                      refine gp_ev rfl (e_ia Try.underlying22 Try.sizeOf5 rfl rfl rfl (by omega)) ?_
                      refine gp_ev rfl (e_ldc (v := mk i q) Try.underlying5 rfl (fun B w h => (hcell i hlt B w h).2 q (by omega))) ?_
                      refine gp_ev rfl (e_mv) ?_
                      refine gp_ev rfl (e_mv) ?_
                      refine gp_eff rfl (s_call (mark_t ((i : Nat) : Int) ((q : Nat) : Int)) .nil) ?_
                      rintro _ _ ⟨_, ⟨rfl, rfl⟩, rfl⟩
                      refine gp_ev rfl (e_ne rfl rfl) ?_
                      refine gp_nil ?_
                      first | refine gc_dec rfl (fun c109 => ?_) (fun c109 => ?_) | refine gc_ndec rfl (fun c109 => ?_) (fun c109 => ?_) | refine gc_cond rfl (fun c109 => ?_) (fun c109 => ?_)
                      · exact absurd rfl c109
                      · skip
                        refine gc_skip ?_
                        refine gc_region ?_
                        refine g_ev (e_mv) ?_
                        refine g_ev (e_add rfl rfl (wrap_id _ _ (by simp only [IntKind.min, IntKind.bits, IntKind.signed]; omega) (by simp only [IntKind.max, IntKind.bits, IntKind.signed]; omega))) ?_
                        refine g_ev (e_as) ?_
                        refine g_nil ?_
                        exact Exists.intro (q + 1) (And.intro ⟨by omega, rfl, rfl, rfl, rfl, rfl⟩ (by omega))
                    · skip
                      refine gc_exit ?_
                      refine gc_region ?_
                      refine g_ev (e_mv) ?_
                      refine g_ev (e_add rfl rfl (wrap_id _ _ (by simp only [IntKind.min, IntKind.bits, IntKind.signed]; omega) (by simp only [IntKind.max, IntKind.bits, IntKind.signed]; omega))) ?_
                      refine g_ev (e_as) ?_
                      refine g_nil ?_
                      exact Exists.intro (i + 1) (And.intro ⟨by omega, rfl, rfl, rfl, rfl⟩ (by omega))
            · skip
              refine gc_exit ?_
              refine gc_seq ?_
              refine gc_region ?_
              refine g_ev (e_as) ?_
              refine g_nil ?_
              refine gc_ret ?_
              exact ret1 (L1 := []) rfl (by (conv => lhs; whnf); try rfl) ⟨rfl, rfl⟩ hdrop


def aw0 : MemS := ⟨List.replicate 3 0, false, false, 0, 0, false⟩
def aw1 : MemS := ⟨[0, 0, 0], false, true, 1, 0, false⟩
def aw2 : MemS := ⟨[7, 0, 0], false, true, 0, 1, false⟩
def aw3 : MemS := ⟨[7, 0, 0], true, true, 0, 1, false⟩
theorem aw01 : aw0.arm 1 = (0, aw1) := by rfl
theorem aw12 : aw1.write 0 7 = (0, aw2) := by rfl
theorem aw23 : aw2.write 1 8 = (70, aw3) := by rfl

theorem awake7_t  : Tri Try.prog 5 #[] [] (isR (.bool true) []) := by
  refine tri_of Try.call5 Try.func5 rfl fun B F => ?_
  refine gc_seq ?_
  refine gc_region ?_
  refine g_ev (e_as) ?_
  refine g_nil ?_
  refine gc_seq ?_
  refine gc_region ?_
  refine g_eff (s_call (new_t 3 (by omega)) .nil) ?_
  rintro _ _ ⟨_, ⟨b, rfl, rfl⟩, rfl⟩
  refine g_ev (e_mv) ?_
  refine g_ev (e_ex rfl) ?_
  refine g_ev (e_ex rfl) ?_
  refine g_ev (e_as) ?_
  refine g_ev (e_as) ?_
  refine g_nil ?_
  refine gc_seq ?_
  refine gc_seq ?_
  refine gc_region ?_
  refine g_ev (e_mv) ?_
  refine g_ev (e_ne rfl rfl) ?_
  refine g_ev (e_mv) ?_
  first | refine g_dec 9 rfl (fun c9 => ?_) (fun c9 => ?_) | refine g_ndec 9 rfl (fun c9 => ?_) (fun c9 => ?_) | refine g_bool 9 rfl (fun c9 => ?_) (fun c9 => ?_)
  · exact absurd rfl c9
  · skip
    refine g_ev (e_mv) ?_
    refine g_ev (e_eqp Try.underlying26 rfl rfl) ?_
    refine g_ev (e_pk rfl) ?_
    refine g_nil ?_
    refine gc_false ?_
    refine gc_skip ?_
    refine gc_seq ?_
    refine gc_region ?_
    refine g_ev (e_mv) ?_
    refine g_eff (s_call (R := isR (.int .i64 0) [memP b aw1]) (by have := arm_t b aw0 1; rw [aw01] at this; exact this) (.cons (by repeat ((conv => arg 2; whnf); first | with_reducible exact .here | ((with_reducible refine Del.hereC ?_); rfl) | ((with_reducible refine Del.hereS ?_ ?_ ?_) <;> rfl) | exact .here | apply Del.there)) .nil)) ?_
    rintro _ _ ⟨_, ⟨rfl, rfl⟩, rfl⟩
    refine g_ev (e_eq rfl rfl) ?_
    refine g_ev (e_mv) ?_
    first | refine g_dec 16 rfl (fun c16 => ?_) (fun c16 => ?_) | refine g_ndec 16 rfl (fun c16 => ?_) (fun c16 => ?_) | refine g_bool 16 rfl (fun c16 => ?_) (fun c16 => ?_)
    · skip
      refine g_ev (e_mv) ?_
      refine g_eff (s_call (R := isR (.int .i64 0) [memP b aw2]) (by have := write_t b aw1 0 7; rw [aw12] at this; exact this) (.cons (by repeat ((conv => arg 2; whnf); first | with_reducible exact .here | ((with_reducible refine Del.hereC ?_); rfl) | ((with_reducible refine Del.hereS ?_ ?_ ?_) <;> rfl) | exact .here | apply Del.there)) .nil)) ?_
      rintro _ _ ⟨_, ⟨rfl, rfl⟩, rfl⟩
      refine g_ev (e_eq rfl rfl) ?_
      refine g_ev (e_pk rfl) ?_
      refine g_ev (e_mv) ?_
      first | refine g_dec 21 rfl (fun c21 => ?_) (fun c21 => ?_) | refine g_ndec 21 rfl (fun c21 => ?_) (fun c21 => ?_) | refine g_bool 21 rfl (fun c21 => ?_) (fun c21 => ?_)
      · skip
        refine g_ev (e_mv) ?_
        refine g_eff (s_call (R := isR (.int .i64 70) [memP b aw3]) (by have := write_t b aw2 1 8; rw [aw23] at this; exact this) (.cons (by repeat ((conv => arg 2; whnf); first | with_reducible exact .here | ((with_reducible refine Del.hereC ?_); rfl) | ((with_reducible refine Del.hereS ?_ ?_ ?_) <;> rfl) | exact .here | apply Del.there)) .nil)) ?_
        rintro _ _ ⟨_, ⟨rfl, rfl⟩, rfl⟩
        refine g_ev (e_eq rfl rfl) ?_
        refine g_ev (e_pk rfl) ?_
        refine g_ev (e_mv) ?_
        first | refine g_dec 26 rfl (fun c26 => ?_) (fun c26 => ?_) | refine g_ndec 26 rfl (fun c26 => ?_) (fun c26 => ?_) | refine g_bool 26 rfl (fun c26 => ?_) (fun c26 => ?_)
        · skip
          refine g_ev (e_mv) ?_
          refine g_eff (s_call (off_t b aw3) (.cons (by repeat ((conv => arg 2; whnf); first | with_reducible exact .here | ((with_reducible refine Del.hereC ?_); rfl) | ((with_reducible refine Del.hereS ?_ ?_ ?_) <;> rfl) | exact .here | apply Del.there)) (.nil))) ?_
          rintro _ _ ⟨_, ⟨rfl, rfl⟩, rfl⟩
          refine g_ev (e_pk rfl) ?_
          refine g_ev (e_mv) ?_
          refine g_ev (e_mv) ?_
          refine g_eff (s_call (bytes_t b aw3 (by decide)) (.cons (by repeat ((conv => arg 2; whnf); first | with_reducible exact .here | ((with_reducible refine Del.hereC ?_); rfl) | ((with_reducible refine Del.hereS ?_ ?_ ?_) <;> rfl) | exact .here | apply Del.there)) .nil)) ?_
          rintro _ _ ⟨_, ⟨a2, c2, rfl, rfl, hn⟩, rfl⟩
          refine g_ev (e_b2s (bs := [7, 0, 0]) Try.underlying22 Try.underlying5 Try.underlying9 rfl (fun B w h => h.rds .here)) ?_
          refine g_ev (e_eqs rfl rfl) ?_
          refine g_ev (e_pk rfl) ?_
          refine g_ev (e_as) ?_
          refine g_nil ?_
          refine gc_ret ?_
          exact ret1 (L1 := []) rfl (by (conv => lhs; whnf); exact congrArg Value.bool (by decide : _ = true)) ⟨rfl, rfl⟩ (fun _ h => h.right)
        · exact absurd rfl c26
      · exact absurd rfl c21
    · exact absurd rfl c16

theorem memown_big {a : Option Addr} {c : Nat} {bs : List UInt8} {L0 : List HProp} (hr : ∀ B w, Sat B w L0 → Rds w 1 (.slice a bs.length c) bs.length (bv bs)) (hm : bs.length ≤ 140737488351232) (hlen : 4096 < bs.length) : Tri Try.prog 3 #[.slice a bs.length c] L0 (isR (.bool true) L0) := by
  refine tri_of Try.call3 Try.func3 rfl fun B F => ?_
  refine gc_seq ?_
  refine gc_region ?_
  refine g_ev (e_as) ?_
  refine g_nil ?_
  refine gc_seq ?_
  refine gc_seq ?_
  refine gc_region ?_
  refine g_eff (s_call (awake7_t ) .nil) ?_
  rintro _ _ ⟨_, ⟨rfl, rfl⟩, rfl⟩
  refine g_ev (e_not rfl) ?_
  refine g_nil ?_
  refine gc_false ?_
  refine gc_skip ?_
  refine gc_seq ?_
  refine gc_region ?_
  refine g_ev (e_mv) ?_
  refine g_eff (s_call (spare_t hr hm) (Pick.all _)) ?_
  rintro _ _ ⟨_, ⟨b13, rfl, rfl⟩, rfl⟩
  refine g_ev (e_mv) ?_
  refine g_ev (e_ex rfl) ?_
  refine g_ev (e_ex rfl) ?_
  refine g_ev (e_as) ?_
  refine g_ev (e_as) ?_
  refine g_nil ?_
  refine gc_seq ?_
  refine gc_region ?_
  refine g_ev (e_mv) ?_
  refine g_eff (s_call (load_t (L0 := [blk b13 5 (bv bs ++ tl bs.length 9)]) (fun B w h => h.rdsb .here (bv_len _)) (by omega)) (.cons .here .nil)) ?_
  rintro _ _ ⟨_, hR, rfl⟩
  rw [if_pos hlen] at hR
  obtain ⟨rfl, rfl⟩ := hR
  refine g_ev (e_mv) ?_
  refine g_ev (e_ex rfl) ?_
  refine g_ev (e_ex rfl) ?_
  refine g_ev (e_as) ?_
  refine g_ev (e_as) ?_
  refine g_nil ?_
  refine gc_seq ?_
  refine gc_seq ?_
  refine gc_region ?_
  refine g_ev (e_mv) ?_
  refine g_ev (e_ne rfl rfl) ?_
  refine g_nil ?_
  first | refine gc_dec rfl (fun c22 => ?_) (fun c22 => ?_) | refine gc_ndec rfl (fun c22 => ?_) (fun c22 => ?_) | refine gc_cond rfl (fun c22 => ?_) (fun c22 => ?_)
  · skip
    refine gc_seq ?_
    refine gc_region ?_
    refine g_ev (e_mv) ?_
    refine g_ev (e_mv) ?_
    refine g_eff (s_call (kept_t hr hm) (.cons .here (Pick.all _))) ?_
    rintro _ _ ⟨_, ⟨rfl, rfl⟩, rfl⟩
    refine g_ev (e_mv) ?_
    refine g_ev (e_mv) ?_
    refine g_ev (e_len Try.underlying22 rfl) ?_
    refine g_ev (e_gt rfl rfl) ?_
    refine g_ev (e_pk rfl) ?_
    refine g_ev (e_as) ?_
    refine g_nil ?_
    refine gc_ret ?_
    exact ret1 (L1 := L0) rfl (by (conv => lhs; whnf); exact congrArg Value.bool (decide_eq_true (by omega))) ⟨rfl, rfl⟩ (fun _ h => h.tail)
  · cases c22

theorem memown_small {a : Option Addr} {c : Nat} {bs : List UInt8} {L0 : List HProp} (hr : ∀ B w, Sat B w L0 → Rds w 1 (.slice a bs.length c) bs.length (bv bs)) (hm : bs.length ≤ 140737488351232) (hlen : ¬ 4096 < bs.length) : Tri Try.prog 3 #[.slice a bs.length c] L0 (isR (.bool true) L0) := by
  refine tri_of Try.call3 Try.func3 rfl fun B F => ?_
  refine gc_seq ?_
  refine gc_region ?_
  refine g_ev (e_as) ?_
  refine g_nil ?_
  refine gc_seq ?_
  refine gc_seq ?_
  refine gc_region ?_
  refine g_eff (s_call (awake7_t ) .nil) ?_
  rintro _ _ ⟨_, ⟨rfl, rfl⟩, rfl⟩
  refine g_ev (e_not rfl) ?_
  refine g_nil ?_
  refine gc_false ?_
  refine gc_skip ?_
  refine gc_seq ?_
  refine gc_region ?_
  refine g_ev (e_mv) ?_
  refine g_eff (s_call (spare_t hr hm) (Pick.all _)) ?_
  rintro _ _ ⟨_, ⟨b13, rfl, rfl⟩, rfl⟩
  refine g_ev (e_mv) ?_
  refine g_ev (e_ex rfl) ?_
  refine g_ev (e_ex rfl) ?_
  refine g_ev (e_as) ?_
  refine g_ev (e_as) ?_
  refine g_nil ?_
  refine gc_seq ?_
  refine gc_region ?_
  refine g_ev (e_mv) ?_
  refine g_eff (s_call (load_t (L0 := [blk b13 5 (bv bs ++ tl bs.length 9)]) (fun B w h => h.rdsb .here (bv_len _)) (by omega)) (.cons .here .nil)) ?_
  rintro _ _ ⟨_, hR, rfl⟩
  rw [if_neg hlen] at hR
  obtain ⟨b17, rfl, rfl⟩ := hR
  refine g_ev (e_mv) ?_
  refine g_ev (e_ex rfl) ?_
  refine g_ev (e_ex rfl) ?_
  refine g_ev (e_as) ?_
  refine g_ev (e_as) ?_
  refine g_nil ?_
  refine gc_seq ?_
  refine gc_seq ?_
  refine gc_region ?_
  refine g_ev (e_mv) ?_
  refine g_ev (e_ne rfl rfl) ?_
  refine g_nil ?_
  first | refine gc_dec rfl (fun c22 => ?_) (fun c22 => ?_) | refine gc_ndec rfl (fun c22 => ?_) (fun c22 => ?_) | refine gc_cond rfl (fun c22 => ?_) (fun c22 => ?_)
  · exact absurd rfl c22
  · skip
    refine gc_skip ?_
    refine gc_seq ?_
    refine gc_region ?_
    refine g_ev (e_mv) ?_
    refine g_eff (s_call (bytes_t b17 ⟨bs, false, false, 0, 0, false⟩ (by show bs.length ≤ _; omega)) (.cons (by repeat ((conv => arg 2; whnf); first | with_reducible exact .here | ((with_reducible refine Del.hereC ?_); rfl) | ((with_reducible refine Del.hereS ?_ ?_ ?_) <;> rfl) | exact .here | apply Del.there)) .nil)) ?_
    rintro _ _ ⟨_, ⟨a32, c32, rfl, rfl, hn32⟩, rfl⟩
    refine g_own' (v := .slice a32 bs.length c32) (e := 5) (k := 1) (m := bs.length) (xs := bv bs) (by have := hn32; cases a32 <;> simp_all [isNil]) .here fun b32 d32 r32 hv32 h132 h232 h332 h432 => ?_
    cases hv32
    refine g_ev (e_mv) ?_
    refine g_eff (s_call (bytes_t b17 ⟨bs, false, false, 0, 0, false⟩ (by show bs.length ≤ _; omega)) (.cons (by repeat ((conv => arg 2; whnf); first | with_reducible exact .here | ((with_reducible refine Del.hereC ?_); rfl) | ((with_reducible refine Del.hereS ?_ ?_ ?_) <;> rfl) | exact .here | apply Del.there)) .nil)) ?_
    rintro _ _ ⟨_, ⟨a34, c34, rfl, rfl, hn34⟩, rfl⟩
    refine g_own' (v := .slice a34 bs.length c34) (e := 5) (k := 1) (m := bs.length) (xs := bv bs) (by have := hn34; cases a34 <;> simp_all [isNil]) .here fun b34 d34 r34 hv34 h134 h234 h334 h434 => ?_
    cases hv34
    refine g_ev (e_as) ?_
    refine g_ev (e_as) ?_
    refine g_nil ?_
    refine gc_seq ?_
    refine gc_seq ?_
    refine gc_region ?_
    refine g_ev (e_mv) ?_
    refine g_ev (e_mv) ?_
    refine g_eff (s_call (kept_t hr hm) (.cons (.there (.there (.there .here))) (.skip (.skip (.skip (Pick.all _)))))) ?_
    rintro _ _ ⟨_, ⟨rfl, rfl⟩, rfl⟩
    refine g_ev (e_not rfl) ?_
    refine g_ev (e_mv) ?_
    refine g_ev (e_mv) ?_
    refine g_ev (e_mv) ?_
    refine g_ev (e_mv) ?_
    refine g_eff (s_bs Try.underlying33 Try.sizeOf22 Try.zeroValue22 rfl) ?_
    rintro _ _ ⟨b43, rfl, rfl⟩
    have hcap : bs.length + 9 ≤ maxLen := by unfold maxLen; omega
    refine g_fin (L1 := (blk b43 22 (svs 3 (fun j => bif Nat.beq j 0 then b13 else bif Nat.beq j 1 then b32 else b34) (fun _ => bs.length) (fun j => bif Nat.beq j 0 then bs.length + 9 else bif Nat.beq j 1 then c32 else c34)) :: fam 3 (owF (fun j => bif Nat.beq j 0 then b13 else bif Nat.beq j 1 then b32 else b34) (fun j => bif Nat.beq j 0 then bs.length + 9 else bif Nat.beq j 1 then c32 else c34) (fun _ => bv bs))) ++ [memP b17 ⟨bs, false, false, 0, 0, false⟩]) (F := L0 ++ F) (.cons (by repeat ((conv => arg 2; whnf); first | with_reducible exact .here | ((with_reducible refine Del.hereC ?_); rfl) | ((with_reducible refine Del.hereS ?_ ?_ ?_) <;> rfl) | exact .here | apply Del.there)) (.fold (M := owM (fun j => bif Nat.beq j 0 then b13 else bif Nat.beq j 1 then b32 else b34) (fun j => bif Nat.beq j 0 then bs.length + 9 else bif Nat.beq j 1 then c32 else c34) (fun _ => bv bs) 0 (tl bs.length 9)) (fun _ h => ⟨_, h⟩) (.pr (by show (bv bs).length + (tl bs.length 9).length = bs.length + 9; rw [bv_len, tl_len]) (.cons (by repeat ((conv => arg 2; whnf); first | with_reducible exact .here | ((with_reducible refine Del.hereC ?_); rfl) | ((with_reducible refine Del.hereS ?_ ?_ ?_) <;> rfl) | exact .here | apply Del.there)) (.fold (M := owM (fun j => bif Nat.beq j 0 then b13 else bif Nat.beq j 1 then b32 else b34) (fun j => bif Nat.beq j 0 then bs.length + 9 else bif Nat.beq j 1 then c32 else c34) (fun _ => bv bs) 1 r32) (fun _ h => ⟨_, h⟩) (.pr (by show (bv bs).length + r32.length = c32; omega) (.cons (Del.mid (.there (.there .here))) (.fold (M := owM (fun j => bif Nat.beq j 0 then b13 else bif Nat.beq j 1 then b32 else b34) (fun j => bif Nat.beq j 0 then bs.length + 9 else bif Nat.beq j 1 then c32 else c34) (fun _ => bv bs) 2 r34) (fun _ h => ⟨_, h⟩) (.pr (by show (bv bs).length + r34.length = c34; omega) (.cons (Del.mid .here) (.cons (Del.mid .here) (by repeat ((conv => arg 1; whnf); (conv => arg 2; whnf); first | with_reducible exact .done | exact Fin.all _ | refine .cons (by repeat ((conv => arg 2; whnf); first | with_reducible exact .here | ((with_reducible refine Del.hereC ?_); rfl) | ((with_reducible refine Del.hereS ?_ ?_ ?_) <;> rfl) | exact .here | apply Del.there)) ?_ | refine .drop ?_))))))))))))) ?_
    refine g_eff (s_call (apart_t (N := 3) (bl := b43) (bb := (fun j => bif Nat.beq j 0 then b13 else bif Nat.beq j 1 then b32 else b34)) (ns := (fun _ => bs.length)) (cp := (fun j => bif Nat.beq j 0 then bs.length + 9 else bif Nat.beq j 1 then c32 else c34)) (X0 := (fun _ => bv bs)) (by decide) (by decide) (fun j _ => hm) (fun j _ => by match j with | 0 => exact hcap | 1 => exact h232 | _ + 2 => exact h234) (fun j _ => bv_len _)) (Pick.all _)) ?_
    rintro _ _ ⟨_, ⟨rfl, rfl⟩, rfl⟩
    refine g_ev (e_not rfl) ?_
    refine g_ev (e_pk rfl) ?_
    refine g_nil ?_
    refine gc_false ?_
    refine gc_skip ?_
    refine gc_seq ?_
    refine gc_draw (fin := none) (plan := [(true, 0), (true, 3), (true, 4), (false, 1), (false, 2), (false, 5), (false, 6)]) rfl (by kernel_rfl) (by kernel_rfl) rfl (.cons .here (Pick.all _)) ?_
    refine gp_ev rfl (e_mv) ?_
    refine gp_ev rfl (e_mv) ?_
    refine gp_ev rfl (e_b2s (bs := bs) Try.underlying22 Try.underlying5 Try.underlying9 rfl (fun B w h => hr B w (by first | exact h.tail | exact h.tail.left | exact h.left))) ?_
    refine gp_eff rfl (s_call (bytes_t b17 ⟨bs, false, false, 0, 0, false⟩ (by show bs.length ≤ _; omega)) (.cons .here .nil)) ?_
    rintro _ _ ⟨_, ⟨a48, c48, rfl, rfl, hn48⟩, rfl⟩
    refine gp_evf rfl (e_b2s (bs := bs) Try.underlying22 Try.underlying5 Try.underlying9 rfl (fun B w h => h.rds .here)) ?_
    refine gp_evf rfl (e_eqs rfl rfl) ?_
    refine gp_evf rfl (e_as) ?_
    refine gp_nil ?_
    refine gc_ret ?_
    exact ret1 (L1 := L0) rfl (by (conv => lhs; whnf); exact congrArg Value.bool (decide_eq_true rfl)) ⟨rfl, rfl⟩ (fun _ h => h.fin (by repeat ((conv => arg 1; whnf); (conv => arg 2; whnf); first | with_reducible exact .done | exact Fin.all _ | refine .cons (by repeat ((conv => arg 2; whnf); first | with_reducible exact .here | ((with_reducible refine Del.hereC ?_); rfl) | ((with_reducible refine Del.hereS ?_ ?_ ?_) <;> rfl) | exact .here | apply Del.there)) ?_ | refine .drop ?_)))

end Go.Proofs.Ytpknnbkdkmogeaa
