/- Laws for walks over owned blocks of memory, for any program; no conditions. -/
import Derived.OrdersHeld
import Derived.WalkKit
import Derived.ProofKit
import Derived.WalkSpells
import Derived.WalkLawsBesides
import Derived.Laws.LoneSync
import Derived.SizedLaws
import Derived.OwnWalk
import Derived.Laws.IdiomRangeMap
import Derived.Laws.StructEq
namespace Go.Vc

/-! ### 1. Parts of a heap -/
abbrev HProp := (Nat → Option Obj) → Prop

def sepL : List HProp → HProp
  | [], f => ∀ b, f b = none
  | A :: L, f => ∃ g h, A g ∧ sepL L h ∧ (∀ b, g b = none ∨ h b = none) ∧ ∀ b, f b = (g b).or (h b)

def pts (b : Nat) (o : Obj) : HProp := fun f => f b = some o ∧ ∀ c, c ≠ b → f c = none
def blk (b : Nat) (t : TypeId) (cs : List Value) : HProp := pts b (.cells ⟨cs⟩ t (0, 0))
def exL {α : Type} (M : α → List HProp) : HProp := fun f => ∃ x, sepL (M x) f
def pr (φ : Prop) : HProp := fun f => φ ∧ ∀ b, f b = none
/-- All blocks of a world, as they are. -/
def old (W : World) : HProp := fun f => ∀ b, f b = W.heap[b]?

structure Sat (B w : World) (L : List HProp) : Prop where
  os : w.os = B.os
  tape : w.tape = B.tape
  output : w.output = B.output
  heap : ∃ f, sepL L f ∧ ∀ b o, f b = some o → w.heap[b]? = some o

inductive Del (A : HProp) : List HProp → List HProp → Prop
  | here {L} : Del A (A :: L) L
  | there {C L L'} : Del A L L' → Del A (C :: L) (C :: L')

theorem Del.hereC {b : Nat} {t : TypeId} {cs cs' : List Value} {L : List HProp} (h : cs = cs') : Del (blk b t cs) (blk b t cs' :: L) L := by subst h; exact .here
/-- 'A' turned into 'A'' where it stands. -/
inductive Turn (A A' : HProp) : List HProp → List HProp → Prop
  | here {L} : Turn A A' (A :: L) (A' :: L)
  | there {C L L'} : Turn A A' L L' → Turn A A' (C :: L) (C :: L')

inductive Pick : List HProp → List HProp → List HProp → Prop
  | nil {L} : Pick [] L L
  | cons {A L1 L L' F} : Del A L L' → Pick L1 L' F → Pick (A :: L1) L F

/-- 'L' gives 'L1' and 'F'; the rest is let go. -/
inductive Fin : List HProp → List HProp → List HProp → Prop
  | done {F} : Fin [] F F
  | drop {A L1 L F} : Fin L1 L F → Fin L1 (A :: L) F
  | cons {A L1 L L' F} : Del A L L' → Fin L1 L' F → Fin (A :: L1) L F
  | pr {φ L1 L F} : φ → Fin L1 L F → Fin (pr φ :: L1) L F
  | fold {A M L1 L F} : (∀ f, sepL M f → A f) → Fin (M ++ L1) L F → Fin (A :: L1) L F

theorem Fin.all {F : List HProp} : ∀ L1, Fin L1 (L1 ++ F) F
  | [] => .done
  | _ :: L1 => .cons .here (Fin.all L1)

theorem Pick.skip {A : HProp} {L1 L F : List HProp} (h : Pick L1 L F) : Pick L1 (A :: L) (A :: F) := by
  induction h with
  | nil => exact .nil
  | cons hd _ ih => exact .cons (.there hd) ih

theorem Pick.all {F : List HProp} : ∀ L1, Pick L1 (L1 ++ F) F
  | [] => .nil
  | _ :: L1 => .cons .here (Pick.all L1)

theorem or_none_left {α : Type} (x : Option α) : (none : Option α).or x = x := by cases x <;> rfl
theorem or_some {α : Type} (y : α) (x : Option α) : (some y).or x = some y := rfl

theorem sepL_swap {A C : HProp} {L : List HProp} {f} (h : sepL (A :: C :: L) f) : sepL (C :: A :: L) f := by
  obtain ⟨g, h1, hA, ⟨g2, h2, hC, hL, hd2, he2⟩, hd, he⟩ := h
  refine ⟨g2, fun b => (g b).or (h2 b), hC, ⟨g, h2, hA, hL, fun b => ?_, fun _ => rfl⟩, fun b => ?_, fun b => ?_⟩
  · have := hd b; have e := he2 b
    rcases hd b with h | h
    · exact .inl h
    · rw [e] at h
      cases hg : g2 b with
      | none => rw [hg, or_none_left] at h; exact .inr h
      | some y => rw [hg, or_some] at h; cases h
  · have e := he2 b
    rcases hd2 b with h | h
    · exact .inl h
    · cases hg : g2 b with
      | none => exact .inl rfl
      | some y =>
        rw [hg, or_some] at e
        rcases hd b with k | k
        · right; simp [k, h]
        · rw [e] at k; cases k
  · have e := he2 b
    rw [he b, e]
    cases hg : g b with
    | none => simp [hg]
    | some y =>
      cases hg2 : g2 b with
      | none => simp [hg]
      | some z =>
        rcases hd b with k | k
        · rw [hg] at k; cases k
        · rw [e, hg2, or_some] at k; cases k

theorem sepL_mono {A A' : HProp} {L L' : List HProp} (hA : ∀ f, A f → A' f) (hL : ∀ f, sepL L f → sepL L' f) {f} (h : sepL (A :: L) f) : sepL (A' :: L') f := by
  obtain ⟨g, k, a, l, d, e⟩ := h
  exact ⟨g, k, hA _ a, hL _ l, d, e⟩

theorem Del.front {A : HProp} {L L' : List HProp} (h : Del A L L') : ∀ {f}, sepL L f → sepL (A :: L') f := by
  induction h with
  | here => exact fun h => h
  | there _ ih => intro f hf; exact sepL_swap (sepL_mono (fun _ h => h) (fun _ h => ih h) hf)

theorem Del.back {A : HProp} {L L' : List HProp} (h : Del A L L') : ∀ {f}, sepL (A :: L') f → sepL L f := by
  induction h with
  | here => exact fun h => h
  | there _ ih => intro f hf; exact sepL_mono (fun _ h => h) (fun _ h => ih h) (sepL_swap hf)

theorem Turn.split {A A' : HProp} {L L' : List HProp} (h : Turn A A' L L') : ∃ M, Del A L M ∧ Del A' L' M := by
  induction h with
  | here => exact ⟨_, .here, .here⟩
  | there _ ih => obtain ⟨M, a, b⟩ := ih; exact ⟨_, .there a, .there b⟩

theorem Del.append {A : HProp} {L L' F : List HProp} (h : Del A L L') : Del A (L ++ F) (L' ++ F) := by
  induction h with
  | here => exact .here
  | there _ ih => exact .there ih

theorem Turn.append {A A' : HProp} {L L' F : List HProp} (h : Turn A A' L L') : Turn A A' (L ++ F) (L' ++ F) := by
  induction h with
  | here => exact .here
  | there _ ih => exact .there ih

theorem Pick.append {L1 L F G : List HProp} (h : Pick L1 L F) : Pick L1 (L ++ G) (F ++ G) := by
  induction h with
  | nil => exact .nil
  | cons h _ ih => exact .cons h.append ih

theorem Pick.to {L1 L F : List HProp} (h : Pick L1 L F) : ∀ {f}, sepL L f → sepL (L1 ++ F) f := by
  induction h with
  | nil => exact fun h => h
  | cons hd _ ih => intro f hf; exact sepL_mono (fun _ h => h) (fun _ h => ih h) (hd.front hf)

theorem Pick.of {L1 L F : List HProp} (h : Pick L1 L F) : ∀ {f}, sepL (L1 ++ F) f → sepL L f := by
  induction h with
  | nil => exact fun h => h
  | cons hd _ ih => intro f hf; exact hd.back (sepL_mono (fun _ h => h) (fun _ h => ih h) hf)

/-- The part of the heap that 'L1 ++ F' tells, parted. -/
theorem sepL_append {L1 F : List HProp} : ∀ {f}, sepL (L1 ++ F) f ↔ ∃ g h, sepL L1 g ∧ sepL F h ∧ (∀ b, g b = none ∨ h b = none) ∧ ∀ b, f b = (g b).or (h b) := by
  induction L1 with
  | nil =>
    intro f
    constructor
    · exact fun h => ⟨fun _ => none, f, fun _ => rfl, h, fun _ => .inl rfl, fun b => by simp⟩
    · rintro ⟨g, h, hg, hF, _, he⟩
      have : f = h := funext fun b => by rw [he b, hg b]; simp
      rw [this]; exact hF
  | cons A L1 ih =>
    intro f
    constructor
    · rintro ⟨g, h, hA, hL, hd, he⟩
      obtain ⟨g1, h1, hg1, hF, hd1, he1⟩ := ih.1 hL
      refine ⟨fun b => (g b).or (g1 b), h1, ⟨g, g1, hA, hg1, fun b => ?_, fun _ => rfl⟩, hF, fun b => ?_, fun b => ?_⟩
      · rcases hd b with k | k
        · exact .inl k
        · rw [he1 b] at k
          cases hh : g1 b with
          | none => exact .inr rfl
          | some y => rw [hh] at k; cases k
      · rcases hd b with k | k
        · rcases hd1 b with m | m
          · left; simp [k, m]
          · exact .inr m
        · rw [he1 b] at k
          cases hh : g1 b with
          | none => rw [hh] at k; right; simpa using k
          | some y => rw [hh] at k; cases k
      · rw [he b, he1 b]; cases hg : g b <;> simp [hg]
    · rintro ⟨g, h, ⟨g1, h1, hA, hL, hd1, he1⟩, hF, hd, he⟩
      refine ⟨g1, fun b => (h1 b).or (h b), hA, ih.2 ⟨h1, h, hL, hF, fun b => ?_, fun _ => rfl⟩, fun b => ?_, fun b => ?_⟩
      · rcases hd b with k | k
        · rw [he1 b] at k
          cases hh : g1 b with
          | none => rw [hh] at k; left; simpa using k
          | some y => rw [hh] at k; cases k
        · exact .inr k
      · rcases hd1 b with k | k
        · exact .inl k
        · rcases hd b with m | m
          · rw [he1 b] at m
            cases hh : g1 b with
            | none => exact .inl rfl
            | some y => rw [hh] at m; cases m
          · right; simp [k, m]
      · rw [he b, he1 b]; cases g1 b <;> simp

theorem sub_of {α : Type} {x y : Option α} {o : α} (m : x = none ∨ x = y) (e : x = some o) : y = some o := by
  rcases m with m | m
  · rw [m] at e; cases e
  · rw [← m]; exact e

theorem sepL_perm {L L' : List HProp} (h : L.Perm L') : ∀ {f}, sepL L f → sepL L' f := by
  induction h with
  | nil => exact fun h => h
  | cons _ _ ih => intro f; exact sepL_mono (fun _ h => h) fun _ => ih
  | swap => exact sepL_swap
  | trans _ _ h1 h2 => exact fun h => h2 (h1 h)

namespace Sat
variable {B w : World} {L L' L1 F : List HProp} {A A' : HProp}
theorem imp (h : Sat B w L) (k : ∀ f, sepL L f → sepL L' f) : Sat B w L' :=
  ⟨h.os, h.tape, h.output, let ⟨f, a, b⟩ := h.heap; ⟨f, k f a, b⟩⟩
theorem front (h : Sat B w L) (d : Del A L L') : Sat B w (A :: L') := h.imp fun _ => d.front
theorem back (h : Sat B w (A :: L')) (d : Del A L L') : Sat B w L := h.imp fun _ => d.back
theorem perm (h : Sat B w L) (p : L.Perm L') : Sat B w L' := h.imp fun _ => sepL_perm p
theorem tail (h : Sat B w (A :: L)) : Sat B w L := by
  obtain ⟨f, ⟨g, k, _, hL, _, he⟩, hf⟩ := h.heap
  exact ⟨h.os, h.tape, h.output, k, hL, fun b o hb => by
    have e := he b
    cases hg : g b with
    | none => rw [hg] at e; exact hf b o (by rw [e]; simpa using hb)
    | some y =>
      rename_i hd
      rcases hd b with m | m
      · rw [m] at hg; cases hg
      · rw [m] at hb; cases hb⟩
theorem right (h : Sat B w (L1 ++ F)) : Sat B w F := by
  induction L1 with
  | nil => exact h
  | cons A L1 ih => exact ih h.tail
theorem left (h : Sat B w (L1 ++ F)) : Sat B w L1 := by
  obtain ⟨f, hf, hb⟩ := h.heap
  obtain ⟨g, k, hg, _, _, he⟩ := sepL_append.1 hf
  exact ⟨h.os, h.tape, h.output, g, hg, fun b o e => hb b o (by rw [he b, e]; rfl)⟩
theorem fin (h : Sat B w L) (k : Fin L1 L F) : Sat B w (L1 ++ F) := by
  have key : ∀ {L1 L F}, Fin L1 L F → ∀ {f}, sepL L f → (∀ b o, f b = some o → w.heap[b]? = some o) → ∃ g, sepL (L1 ++ F) g ∧ ∀ b, g b = none ∨ g b = f b := by
    intro L1 L F k
    induction k with
    | done => exact fun hf _ => ⟨_, hf, fun _ => .inr rfl⟩
    | drop _ ih =>
      intro f hf hb
      obtain ⟨g, h1, _, hL, hd, he⟩ := hf
      have hs : ∀ b, h1 b = none ∨ h1 b = f b := fun b => by
        rw [he b]
        rcases hd b with m | m
        · right; simp [m]
        · exact .inl m
      obtain ⟨g2, hg2, hs2⟩ := ih hL (fun b _ e => hb b _ (sub_of (hs b) e))
      exact ⟨g2, hg2, fun b => by
        rcases hs2 b with m | m
        · exact .inl m
        · rcases hs b with n | n
          · left; rw [m, n]
          · right; rw [m, n]⟩
    | cons hd _ ih =>
      intro f hf hb
      obtain ⟨g, h1, hA, hL, hd1, he⟩ := hd.front hf
      have hs : ∀ b, h1 b = none ∨ h1 b = f b := fun b => by
        rw [he b]
        rcases hd1 b with m | m
        · right; simp [m]
        · exact .inl m
      obtain ⟨g2, hg2, hs2⟩ := ih hL (fun b _ e => hb b _ (sub_of (hs b) e))
      refine ⟨fun b => (g b).or (g2 b), ⟨g, g2, hA, hg2, fun b => ?_, fun _ => rfl⟩, fun b => ?_⟩
      · rcases hd1 b with m | m
        · exact .inl m
        · rcases hs2 b with n | n
          · exact .inr n
          · right; rw [n, m]
      · rw [he b]
        rcases hs2 b with n | n
        · cases hg : g b with
          | none => left; simp [n, hg]
          | some y => right; simp [hg]
        · right; simp [n]
    | pr hp _ ih =>
      intro f hf hb
      obtain ⟨g, hg, hs⟩ := ih hf hb
      exact ⟨g, ⟨fun _ => none, g, ⟨hp, fun _ => rfl⟩, hg, fun _ => .inl rfl, fun _ => by simp⟩, hs⟩
    | fold hA _ ih =>
      intro f hf hb
      obtain ⟨g, hg, hs⟩ := ih hf hb
      rw [List.append_assoc] at hg
      obtain ⟨g1, g2, h1, h2, hd, he⟩ := sepL_append.1 hg
      exact ⟨g, ⟨g1, g2, hA _ h1, h2, hd, he⟩, hs⟩
  obtain ⟨f, hf, hb⟩ := h.heap
  obtain ⟨g, hg, hs⟩ := key k hf hb
  exact ⟨h.os, h.tape, h.output, g, hg, fun b _ e => hb b _ (sub_of (hs b) e)⟩
theorem read {b : Nat} {o : Obj} (h : Sat B w L) (d : Del (pts b o) L L') : w.heap[b]? = some o := by
  obtain ⟨f, ⟨g, k, hA, _, _, he⟩, hf⟩ := (h.front d).heap
  exact hf b o (by rw [he b, hA.1]; rfl)
/-- The world behind a change of one block. -/
theorem change {b : Nat} {o o' : Obj} {w' : World} (h : Sat B w L) (d : Turn (pts b o) (pts b o') L L')
    (hos : w'.os = w.os) (htape : w'.tape = w.tape) (hout : w'.output = w.output) (hb : w'.heap[b]? = some o') (hoth : ∀ c, c ≠ b → w'.heap[c]? = w.heap[c]?) : Sat B w' L' := by
  obtain ⟨M, d1, d2⟩ := d.split
  obtain ⟨f, ⟨g, k, hA, hL, hd, he⟩, hf⟩ := (h.front d1).heap
  refine Sat.back (L' := M) ⟨hos.trans h.os, htape.trans h.tape, hout.trans h.output, fun c => if c = b then some o' else k c, ⟨fun c => if c = b then some o' else none, k, ⟨by simp, fun c hc => by simp [hc]⟩, hL, fun c => ?_, fun c => ?_⟩, fun c o1 hc => ?_⟩ d2
  · by_cases e : c = b
    · subst e
      rcases hd c with m | m
      · rw [hA.1] at m; cases m
      · exact .inr m
    · left; simp [e]
  · by_cases e : c = b
    · subst e; simp
    · simp [e]
  · by_cases e : c = b
    · subst e; simp at hc; subst hc; exact hb
    · simp [e] at hc
      rw [hoth c e]
      exact hf c o1 (by rw [he c, hA.2 c e]; simpa using hc)
/-- The world behind a new block. -/
theorem new {o : Obj} {w' : World} (h : Sat B w L) (hos : w'.os = w.os) (htape : w'.tape = w.tape) (hout : w'.output = w.output)
    (hb : w'.heap[w.heap.size]? = some o) (hoth : ∀ c, c < w.heap.size → w'.heap[c]? = w.heap[c]?) : Sat B w' (pts w.heap.size o :: L) := by
  obtain ⟨f, hL, hf⟩ := h.heap
  have lt : ∀ c o1, f c = some o1 → c < w.heap.size := fun c o1 hc => (Array.getElem?_eq_some_iff.1 (hf c o1 hc)).1
  have fresh : f w.heap.size = none := by
    cases hh : f w.heap.size with
    | none => rfl
    | some y => exact absurd (lt _ _ hh) (Nat.lt_irrefl _)
  refine ⟨hos.trans h.os, htape.trans h.tape, hout.trans h.output, fun c => if c = w.heap.size then some o else f c, ⟨fun c => if c = w.heap.size then some o else none, f, ⟨by simp, fun c hc => by simp [hc]⟩, hL, fun c => ?_, fun c => ?_⟩, fun c o1 hc => ?_⟩
  · by_cases e : c = w.heap.size
    · subst e; exact .inr fresh
    · left; simp [e]
  · by_cases e : c = w.heap.size
    · subst e; simp
    · simp [e]
  · by_cases e : c = w.heap.size
    · subst e; simp at hc; subst hc; exact hb
    · simp [e] at hc
      rw [hoth c (lt c o1 hc)]
      exact hf c o1 hc
/-- A world whose heap is the same. -/
theorem same {w' : World} (h : Sat B w L) (hos : w'.os = w.os) (htape : w'.tape = w.tape) (hout : w'.output = w.output) (hh : w'.heap = w.heap) : Sat B w' L :=
  ⟨hos.trans h.os, htape.trans h.tape, hout.trans h.output, let ⟨f, a, b⟩ := h.heap; ⟨f, a, fun c o e => by rw [hh]; exact b c o e⟩⟩
theorem readOld {W : World} {b : Nat} (h : Sat B w L) (d : Del (old W) L L') (hb : b < W.heap.size) : w.heap[b]? = W.heap[b]? := by
  obtain ⟨f, ⟨g, k, hA, _, _, he⟩, hf⟩ := (h.front d).heap
  have e := hA b
  have e2 : W.heap[b]? = some W.heap[b] := by simp [hb]
  rw [e2]
  exact hf b _ (by rw [he b, e, e2]; rfl)
theorem ofOld (W : World) : Sat W W [old W] :=
  ⟨rfl, rfl, rfl, fun b => W.heap[b]?, ⟨fun b => W.heap[b]?, fun _ => none, fun _ => rfl, fun _ => rfl, fun _ => .inr rfl, fun b => by simp⟩, fun _ _ h => h⟩
theorem below {W : World} (h : Sat W w L) (d : Del (old W) L L') : Go.RowKit.Below W.heap.size W w := by
  refine ⟨h.os, h.tape, h.output, ?_, fun k hk => h.readOld d hk⟩
  rcases Nat.eq_zero_or_pos W.heap.size with e | e
  · omega
  · have := h.readOld (b := W.heap.size - 1) d (by omega)
    have e2 : W.heap[W.heap.size - 1]? = some W.heap[W.heap.size - 1] := by simp
    rw [e2] at this
    have := (Array.getElem?_eq_some_iff.1 this).1
    omega
end Sat
end Go.Vc

namespace Go.Vc

/-! ### 2. The frame's temporaries; the judgements -/
abbrev Env := Nat → Value
def upd (E : Env) (d : Nat) (v : Value) : Env := fun t => bif Nat.beq t d then v else E t
def updO (E : Env) : Option Tmp → Value → Env
  | some d, v => upd E d v
  | none, _ => E
def ev (E : Env) : Operand → Value
  | .tmp t => E t
  | .const v => v
  | .global g => .pointer (some ⟨g, 0, none⟩)
  | .func f => .func (.func f) #[] #[]
def env0 (args : List Value) : Env := fun t => args.getD t undef

theorem upd_id {E : Env} {d : Nat} {v : Value} (h : E d = v) : upd E d v = E := by
  funext t
  unfold upd
  cases h' : Nat.beq t d with
  | true => have := Nat.eq_of_beq_eq_true h'; subst this; simp [h]
  | false => simp

structure RepA (a : Act) (n : Nat) (E : Env) : Prop where
  size : a.tmps.size = n
  defers : a.defers = []
  get : ∀ t, a.tmps.getD t undef = E t

theorem RepA.eval {a : Act} {n : Nat} {E : Env} (h : RepA a n E) : a.eval = ev E := by
  funext x
  cases x with
  | tmp t => exact h.get t
  | _ => rfl

def dstB (n : Nat) : Option Tmp → Bool
  | some d => Nat.blt d n
  | none => true

theorem RepA.put {a : Act} {n : Nat} {E : Env} (h : RepA a n E) {d : Option Tmp} (hd : dstB n d = true) (v : Value) : RepA (a.put d v) n (updO E d v) := by
  cases d with
  | none => exact h
  | some d =>
    have hlt : d < n := Nat.le_of_ble_eq_true hd
    refine ⟨by simp [Act.put, h.size], h.defers, fun t => ?_⟩
    have hs := h.size
    simp only [Act.put, updO, upd]
    by_cases e : t = d
    · subst e
      simp [Array.getD_eq_getD_getElem?, hs, hlt]
    · have : Nat.beq t d = false := by
        cases hh : Nat.beq t d with
        | true => exact absurd (Nat.eq_of_beq_eq_true hh) e
        | false => rfl
      rw [this, cond_false, ← h.get t]
      simp only [Array.getD_eq_getD_getElem?]
      rw [Array.getElem?_setIfInBounds_ne (fun h => e h.symm)]

def yieldedE (ops : Array Oper) (E : Env) (j : Nat) : Option Bool :=
  match (ops[j]?).bind (·.dst) with
  | some d => match E d with | .bool b => some b | _ => none
  | none => none

theorem RepA.yielded {a : Act} {n : Nat} {E : Env} (h : RepA a n E) (ops : Array Oper) : Go.yielded ops a.tmps = yieldedE ops E := by
  funext j
  unfold Go.yielded yieldedE
  cases hd : (ops[j]?).bind (·.dst) with
  | none => rfl
  | some d =>
    have g := h.get d
    simp only [Option.bind_some]
    rw [← g, Array.getD_eq_getD_getElem?]
    cases a.tmps[d]? with
    | none => simp [undef]
    | some v => cases v <;> rfl

abbrev Kont := Exit → Env → List HProp → Prop

def lift (B : World) (n : Nat) (K : Kont) : Exit → Act → World → Prop
  | .panic _, _, _ => False
  | .outgrown, _, _ => False
  | e, a, w => ∃ E L, RepA a n E ∧ Sat B w L ∧ K e E L

variable {P : Program} {B : World} {n : Nat} {ops : Array Oper} {K : Kont} {E : Env} {L : List HProp}

def GC (P : Program) (B : World) (n : Nat) (c : Code) (K : Kont) (E : Env) (L : List HProp) : Prop :=
  ∀ a w, RepA a n E → Sat B w L → c.wp P (lift B n K) a w

def G (P : Program) (B : World) (n : Nat) (ops : Array Oper) (l : List Oper) (K : Kont) (E : Env) (L : List HProp) : Prop :=
  ∀ a w, RepA a n E → Sat B w L → wpList P ops (lift B n K) l a w

def seqK (f : Env → List HProp → Prop) (K : Kont) : Kont
  | .normal, E, L => f E L
  | e, E, L => K e E L
def blockK (id : Nat) (K : Kont) : Kont
  | .exit i, E, L => bif Nat.beq i id then K .normal E L else K (.exit i) E L
  | e, E, L => K e E L

theorem lift_mono {K' : Kont} (h : ∀ e E L, K e E L → K' e E L) : ∀ e a w, lift B n K e a w → lift B n K' e a w := by
  intro e a w
  cases e <;> simp only [lift] <;> first | exact id | exact fun ⟨E, L, r, s, k⟩ => ⟨E, L, r, s, h _ E L k⟩

theorem gc_seq {x y : Code} (h : GC P B n x (seqK (GC P B n y K) K) E L) : GC P B n (.seq x y) K E L := by
  intro a w r s
  refine wp_seq (wp_mono (h a w r s) fun e a w q => ?_)
  cases e <;> simp only [lift, Exit.then] at q ⊢ <;> first | exact q | (obtain ⟨E, L, r, s, k⟩ := q; first | exact k a w r s | exact ⟨E, L, r, s, k⟩)
theorem gc_block {id : Nat} {c : Code} (h : GC P B n c (blockK id K) E L) : GC P B n (.block id c) K E L := by
  intro a w r s
  refine wp_block (wp_mono (h a w r s) fun e a w q => ?_)
  cases e with
  | exit i =>
    simp only [lift, Exit.inBlock, blockK] at q ⊢
    obtain ⟨E, L, r, s, k⟩ := q
    split
    · rename_i e; subst e; exact ⟨E, L, r, s, by simpa using k⟩
    · rename_i e
      have : Nat.beq i id = false := by
        cases hh : Nat.beq i id with
        | true => exact absurd (Nat.eq_of_beq_eq_true hh) e
        | false => rfl
      rw [this] at k
      exact ⟨E, L, r, s, k⟩
  | _ => exact q
theorem gc_skip (h : K .normal E L) : GC P B n .skip K E L := fun _ _ r s => wp_skip ⟨E, L, r, s, h⟩
theorem gc_exit {i : Nat} (h : K (.exit i) E L) : GC P B n (.exit i) K E L := fun _ _ r s => wp_exit ⟨E, L, r, s, h⟩
theorem gc_ret (h : K .ret E L) : GC P B n .ret K E L := fun _ _ r s => wp_ret ⟨E, L, r, s, h⟩
theorem gc_label {i : Nat} (h : K .normal E L) : GC P B n (.label i) K E L := fun _ _ r s => wp_label ⟨E, L, r, s, h⟩
theorem gc_true {c : Operand} {x y : Code} (h : GC P B n x K E L) (hc : ev E c = .bool true := by (conv => lhs; whnf)) : GC P B n (.cond c x y) K E L :=
  fun a w r s => wp_cond_true (by rw [r.eval]; exact hc) (h a w r s)
theorem gc_false {c : Operand} {x y : Code} (h : GC P B n y K E L) (hc : ev E c = .bool false := by (conv => lhs; whnf)) : GC P B n (.cond c x y) K E L :=
  fun a w r s => wp_cond_false (by rw [r.eval]; exact hc) (h a w r s)
theorem gc_cond {c : Operand} {x y : Code} {b : Bool} (hc : ev E c = .bool b) (ht : b = true → GC P B n x K E L) (hf : b = false → GC P B n y K E L) : GC P B n (.cond c x y) K E L :=
  fun a w r s => wp_cond_split (by rw [r.eval]; exact hc) (fun h => ht h a w r s) (fun h => hf h a w r s)
theorem gc_dec {c : Operand} {x y : Code} {p : Prop} {hd : Decidable p} (hc : ev E c = .bool (decide p)) (ht : p → GC P B n x K E L) (hf : ¬ p → GC P B n y K E L) : GC P B n (.cond c x y) K E L :=
  gc_cond hc (fun h => ht (of_decide_eq_true h)) (fun h => hf (of_decide_eq_false h))
theorem gc_ndec {c : Operand} {x y : Code} {p : Prop} {hd : Decidable p} (hc : ev E c = .bool (!decide p)) (ht : ¬ p → GC P B n x K E L) (hf : p → GC P B n y K E L) : GC P B n (.cond c x y) K E L :=
  gc_cond hc (fun h => ht (by simpa using h)) (fun h => hf (by simpa using h))
theorem gc_loop {α : Type} {c : Code} (I : α → Env → List HProp → Prop) (μ : α → Nat) (x0 : α) (h0 : I x0 E L)
    (round : ∀ x E L, I x E L → GC P B n c (seqK (fun E' L' => ∃ y, I y E' L' ∧ μ y < μ x) K) E L) : GC P B n (.loop c) K E L := by
  intro a w r s b k cs
  have key : ∀ m x a w E L, μ x = m → I x E L → RepA a n E → Sat B w L →
      ∃ e a' w', lift B n K e a' w' ∧ Arrives P (lone (b.at a (.code c :: .inLoop c :: k)) cs w) b k cs e a' w' := by
    intro m
    induction m using Nat.strongRecOn with
    | _ m ih =>
      intro x a w E L hm hI r s
      obtain ⟨e, a₁, w₁, hq, harr⟩ := round x E L hI a w r s b (.inLoop c :: k) cs
      cases e with
      | normal =>
        obtain ⟨E1, L1, r1, s1, y, hy, hlt⟩ := hq
        obtain ⟨e₂, a₂, w₂, hq₂, harr₂⟩ := ih (μ y) (hm ▸ hlt) y a₁ w₁ E1 L1 rfl hy r1 s1
        exact ⟨e₂, a₂, w₂, hq₂, .of_steps (Steps.trans harr (.one step_inLoop)) harr₂⟩
      | exit id => exact ⟨(.exit id), a₁, w₁, hq, .pass (x := .inLoop c) rfl (fun _ _ => .inl (by simp)) harr⟩
      | goto l => exact ⟨(.goto l), a₁, w₁, hq, .pass (x := .inLoop c) rfl (fun _ _ => .inl (by simp)) harr⟩
      | ret => exact ⟨.ret, a₁, w₁, hq, .pass (x := .inLoop c) rfl (fun _ _ => .inl (by simp)) harr⟩
      | panic ch => exact ⟨(.panic ch), a₁, w₁, hq, .pass (x := .inLoop c) rfl (fun _ _ => .inl (by simp)) harr⟩
      | outgrown => exact ⟨.outgrown, a₁, w₁, hq, .pass (x := .inLoop c) rfl (fun _ _ => .inl (by simp)) harr⟩
  obtain ⟨e, a', w', hq, harr⟩ := key _ x0 a w E L rfl h0 r s
  exact ⟨e, a', w', hq, .of_steps (.one step_loop) harr⟩
theorem gc_slot {c : Code} (d : Nat) (v : Value) (h : GC P B n c K (upd E d v) L) (hd : E d = v) : GC P B n c K E L := by
  rw [upd_id hd] at h; exact h
theorem gc_fin {c : Code} {L1 F : List HProp} (k : Fin L1 L F) (h : GC P B n c K E (L1 ++ F)) : GC P B n c K E L :=
  fun a w r s => h a w r (s.fin k)
theorem gc_open {α : Type} {c : Code} {A : HProp} {L' : List HProp} (M : α → List HProp) (hd : Del A L L') (hA : ∀ f, A f → ∃ x, sepL (M x) f) (h : ∀ x, GC P B n c K E (M x ++ L')) : GC P B n c K E L := by
  intro a w r s
  obtain ⟨f, ⟨g, k, hg, hk, hd1, he⟩, hf⟩ := (s.front hd).heap
  obtain ⟨x, hx⟩ := hA g hg
  exact h x a w r ⟨s.os, s.tape, s.output, f, sepL_append.2 ⟨g, k, hx, hk, hd1, he⟩, hf⟩
theorem gc_pr {c : Code} {φ : Prop} {L' : List HProp} (hd : Del (pr φ) L L') (h : φ → GC P B n c K E L') : GC P B n c K E L := by
  intro a w r s
  obtain ⟨f, ⟨g, k, hg, hk, hd1, he⟩, hf⟩ := (s.front hd).heap
  exact h hg.1 a w r (s.front hd).tail

theorem g_nil (h : K .normal E L) : G P B n ops [] K E L := fun _ _ r s => wpList_nil ⟨E, L, r, s, h⟩
theorem gc_region {id : Nat} {l : List Oper} (h : G P B n l.toArray l K E L) : GC P B n (.region id l.toArray false) K E L :=
  fun a w r s => wp_region_lit (h a w r s)

/-! ### 3. Operations -/
def Upon (P : Program) (R : Value → World → Prop) : Result Next → Prop
  | .ok (.value v) w => R v w
  | .ok .skip w => R undef w
  | .ok (.enter f args) w => Calls P f args w fun e w' => ∃ v, e = .returned v ∧ R v w'
  | .ok (.row row args) w => Rows P row args w R
  | _ => False

/-- The operation, in this state: what it gives, and what is then owned; whatever else there is stays. -/
def Eff (P : Program) (E : Env) (L : List HProp) (o : Oper) (R : Value → List HProp → Prop) : Prop :=
  ∀ B F w, Sat B w (L ++ F) → Upon P (fun v w' => ∃ L', R v L' ∧ Sat B w' (L' ++ F)) ((execOp (ev E) o).run P w)
/-- The operation gives 'v', and nothing changes. -/
def Ev (P : Program) (E : Env) (L : List HProp) (o : Oper) (v : Value) : Prop :=
  ∀ B w, Sat B w L → (execOp (ev E) o).run P w = .ok (.value v) w

def wantedE (ops : Array Oper) (E : Env) (o : Oper) : Bool := Region.wanted o (yieldedE ops E)

theorem upon_of {o : Oper} {a : Act} {R : Value → World → Prop} {next : Act → World → Prop} {Q : Exit → Act → World → Prop} {r : Result Next}
    (h : Upon P R r) (k : ∀ v w', R v w' → next (a.put o.dst v) w') : o.upon P a next Q r := by
  cases r with
  | ok x w' =>
    cases x <;> simp only [Upon, Oper.upon] at h ⊢
    case value => exact k _ _ h
    case skip => exact k _ _ h
    case enter => exact Calls.mono h fun e w'' ⟨v, he, hR⟩ => by subst he; exact k _ _ hR
    case row => exact Rows.mono h fun v w'' hR => k _ _ hR
  | halt x w' => exact h.elim

theorem g_eff {l : List Oper} {o : Oper} {R : Value → List HProp → Prop} (h : Eff P E L o R) (k : ∀ v L', R v L' → G P B n ops l K (updO E o.dst v) L')
    (hw : wantedE ops E o = true := by rfl) (hd : dstB n o.dst = true := by rfl) : G P B n ops (o :: l) K E L := by
  intro a w r s
  unfold wpList
  rw [r.yielded, if_pos (show Region.wanted o (yieldedE ops E) = true from hw)]
  refine .inl ?_
  unfold Oper.wp
  rw [r.eval]
  refine upon_of (h B [] w (by simpa using s)) fun v w' ⟨L', hR, hs⟩ => ?_
  exact k v L' hR _ w' (r.put hd v) (by simpa using hs)
theorem g_ev {l : List Oper} {o : Oper} {v : Value} (h : Ev P E L o v) (k : G P B n ops l K (updO E o.dst v) L)
    (hw : wantedE ops E o = true := by rfl) (hd : dstB n o.dst = true := by rfl) : G P B n ops (o :: l) K E L := by
  intro a w r s
  unfold wpList
  rw [r.yielded, if_pos (show Region.wanted o (yieldedE ops E) = true from hw)]
  refine .inl ?_
  unfold Oper.wp
  rw [r.eval, h B w s]
  exact k _ w (r.put hd v) s
theorem g_not {l : List Oper} {o : Oper} (k : G P B n ops l K (updO E o.dst undef) L)
    (hw : wantedE ops E o = false := by rfl) (hd : dstB n o.dst = true := by rfl) : G P B n ops (o :: l) K E L := by
  intro a w r s
  unfold wpList
  rw [r.yielded, if_neg (show ¬ Region.wanted o (yieldedE ops E) = true by rw [show Region.wanted o (yieldedE ops E) = false from hw]; simp)]
  exact k _ w (r.put hd undef) s
theorem g_slot {l : List Oper} (d : Nat) (v : Value) (h : G P B n ops l K (upd E d v) L) (hd : E d = v) : G P B n ops l K E L := by
  rw [upd_id hd] at h; exact h
theorem g_bool {l : List Oper} (d : Nat) {b : Bool} (hd : E d = .bool b) (ht : b = true → G P B n ops l K (upd E d (.bool true)) L) (hf : b = false → G P B n ops l K (upd E d (.bool false)) L) : G P B n ops l K E L := by
  cases b with
  | true => exact g_slot d _ (ht rfl) hd
  | false => exact g_slot d _ (hf rfl) hd
theorem g_dec {l : List Oper} (d : Nat) {p : Prop} {hp : Decidable p} (hd : E d = .bool (decide p)) (ht : p → G P B n ops l K (upd E d (.bool true)) L) (hf : ¬ p → G P B n ops l K (upd E d (.bool false)) L) : G P B n ops l K E L :=
  g_bool d hd (fun h => ht (of_decide_eq_true h)) (fun h => hf (of_decide_eq_false h))
theorem g_ndec {l : List Oper} (d : Nat) {p : Prop} {hp : Decidable p} (hd : E d = .bool (!decide p)) (ht : ¬ p → G P B n ops l K (upd E d (.bool true)) L) (hf : p → G P B n ops l K (upd E d (.bool false)) L) : G P B n ops l K E L :=
  g_bool d hd (fun h => ht (by simpa using h)) (fun h => hf (by simpa using h))
theorem g_fin {l : List Oper} {L1 F : List HProp} (k : Fin L1 L F) (h : G P B n ops l K E (L1 ++ F)) : G P B n ops l K E L :=
  fun a w r s => h a w r (s.fin k)
theorem g_open {α : Type} {l : List Oper} {A : HProp} {L' : List HProp} (M : α → List HProp) (hd : Del A L L') (hA : ∀ f, A f → ∃ x, sepL (M x) f) (h : ∀ x, G P B n ops l K E (M x ++ L')) : G P B n ops l K E L := by
  intro a w r s
  obtain ⟨f, ⟨g, k, hg, hk, hd1, he⟩, hf⟩ := (s.front hd).heap
  obtain ⟨x, hx⟩ := hA g hg
  exact h x a w r ⟨s.os, s.tape, s.output, f, sepL_append.2 ⟨g, k, hx, hk, hd1, he⟩, hf⟩
theorem g_pr {l : List Oper} {φ : Prop} {L' : List HProp} (hd : Del (pr φ) L L') (h : φ → G P B n ops l K E L') : G P B n ops l K E L := by
  intro a w r s
  obtain ⟨f, ⟨g, k, hg, hk, hd1, he⟩, hf⟩ := (s.front hd).heap
  exact h hg.1 a w r (s.front hd).tail

/-! ### 4. A function -/
def Call (P : Program) (f : FuncId) (args : Array Value) (w : World) (R : Value → World → Prop) : Prop := Upon P R ((callFunc f args).run P w)
def Tri (P : Program) (f : FuncId) (args : Array Value) (L : List HProp) (R : Value → List HProp → Prop) : Prop :=
  ∀ B F w, Sat B w (L ++ F) → Call P f args w fun v w' => ∃ L', R v L' ∧ Sat B w' (L' ++ F)

def retK (P : Program) (B : World) (n : Nat) (fn : Func) (F : List HProp) (R : Value → List HProp → Prop) : Kont
  | .normal, E, L | .ret, E, L => ∃ v, (∀ a w, RepA a n E → Sat B w L → (results fn a.tmps).run P w = .ok v w) ∧ ∃ L', R v L' ∧ ∀ w, Sat B w L → Sat B w (L' ++ F)
  | _, _, _ => False

theorem env0_rep (args : List Value) (n : Nat) (h : args.length ≤ n) : RepA { tmps := ⟨args⟩ ++ Array.replicate (n - (⟨args⟩ : Array Value).size) undef, defers := [] } n (env0 args) := by
  refine ⟨by simp; omega, rfl, fun t => ?_⟩
  simp only [Array.getD_eq_getD_getElem?, env0, List.getD_eq_getElem?_getD]
  rw [Array.getElem?_append]
  split
  · simp
  · rename_i hh
    simp only [List.size_toArray, Nat.not_lt] at hh
    rw [Array.getElem?_replicate, List.getElem?_eq_none hh]
    split <;> rfl

theorem tri_of {f : FuncId} {fn : Func} {c : Code} {args : List Value} {L : List HProp} {R : Value → List HProp → Prop}
    (hcall : ∀ as w, (callFunc f as).run P w = .ok (.enter f as) w) (hf : P.funcs[f]? = some fn) (hb : fn.body = some c)
    (h : ∀ B F, GC P B fn.ntmps c (retK P B fn.ntmps fn F R) (env0 args) (L ++ F)) (hn : Nat.ble args.length fn.ntmps = true := by rfl) : Tri P f ⟨args⟩ L R := by
  intro B F w s
  unfold Call
  rw [hcall]
  refine calls_of_wp hf hb (wp_mono (h B F _ w (env0_rep args _ (Nat.le_of_ble_eq_true hn)) s) fun e a w' q => ?_)
  have key : ∀ e, (e = .normal ∨ e = .ret) → lift B fn.ntmps (retK P B fn.ntmps fn F R) e a w' → bodyPost P fn (fun e w' => ∃ v, e = .returned v ∧ ∃ L', R v L' ∧ Sat B w' (L' ++ F)) e a w' := by
    rintro e (rfl | rfl) ⟨E, L, r, s, v, hv, L', hR, hs⟩ <;> exact ⟨r.defers, v, hv a w' r s, v, rfl, L', hR, hs w' s⟩
  cases e with
  | normal => exact key _ (.inl rfl) q
  | ret => exact key _ (.inr rfl) q
  | exit i => obtain ⟨_, _, _, _, q⟩ := q; exact q.elim
  | goto i => obtain ⟨_, _, _, _, q⟩ := q; exact q.elim
  | panic c => exact q.elim
  | outgrown => exact q.elim

theorem ret0 {fn : Func} {F L1 : List HProp} {R : Value → List HProp → Prop} (hr : fn.results = #[]) (hR : R (.tuple #[]) L1) (hs : ∀ w, Sat B w L → Sat B w (L1 ++ F)) :
    retK P B n fn F R .ret E L := by
  have : ∃ v, (∀ a w, RepA a n E → Sat B w L → (results fn a.tmps).run P w = .ok v w) ∧ ∃ L', R v L' ∧ ∀ w, Sat B w L → Sat B w (L' ++ F) :=
    ⟨_, fun a w _ _ => results_none hr a.tmps P w, L1, hR, hs⟩
  exact this
theorem end0 {fn : Func} {F L1 : List HProp} {R : Value → List HProp → Prop} (hr : fn.results = #[]) (hR : R (.tuple #[]) L1) (hs : ∀ w, Sat B w L → Sat B w (L1 ++ F)) :
    retK P B n fn F R .normal E L := by
  have : ∃ v, (∀ a w, RepA a n E → Sat B w L → (results fn a.tmps).run P w = .ok v w) ∧ ∃ L', R v L' ∧ ∀ w, Sat B w L → Sat B w (L' ++ F) :=
    ⟨_, fun a w _ _ => results_none hr a.tmps P w, L1, hR, hs⟩
  exact this
theorem ret1 {fn : Func} {F L1 : List HProp} {R : Value → List HProp → Prop} {t : Tmp} {v : Value} (hr : fn.results = #[.tmp t]) (hv : E t = v) (hR : R v L1) (hs : ∀ w, Sat B w L → Sat B w (L1 ++ F)) :
    retK P B n fn F R .ret E L := by
  have : ∃ v, (∀ a w, RepA a n E → Sat B w L → (results fn a.tmps).run P w = .ok v w) ∧ ∃ L', R v L' ∧ ∀ w, Sat B w L → Sat B w (L' ++ F) :=
    ⟨_, fun a w r _ => by rw [results_tmp hr a.tmps P w, r.get t, hv], L1, hR, hs⟩
  exact this
theorem end1 {fn : Func} {F L1 : List HProp} {R : Value → List HProp → Prop} {t : Tmp} {v : Value} (hr : fn.results = #[.tmp t]) (hv : E t = v) (hR : R v L1) (hs : ∀ w, Sat B w L → Sat B w (L1 ++ F)) :
    retK P B n fn F R .normal E L := by
  have : ∃ v, (∀ a w, RepA a n E → Sat B w L → (results fn a.tmps).run P w = .ok v w) ∧ ∃ L', R v L' ∧ ∀ w, Sat B w L → Sat B w (L' ++ F) :=
    ⟨_, fun a w r _ => by rw [results_tmp hr a.tmps P w, r.get t, hv], L1, hR, hs⟩
  exact this
theorem ret2 {fn : Func} {F L1 : List HProp} {R : Value → List HProp → Prop} {t u : Tmp} {v x : Value} (hr : fn.results = #[.tmp t, .tmp u]) (hv : E t = v) (hx : E u = x) (hR : R (.tuple #[v, x]) L1) (hs : ∀ w, Sat B w L → Sat B w (L1 ++ F)) :
    retK P B n fn F R .ret E L := by
  have : ∃ v, (∀ a w, RepA a n E → Sat B w L → (results fn a.tmps).run P w = .ok v w) ∧ ∃ L', R v L' ∧ ∀ w, Sat B w L → Sat B w (L' ++ F) :=
    ⟨_, fun a w r _ => by rw [results_tmp2 hr a.tmps P w, r.get t, r.get u, hv, hx], L1, hR, hs⟩
  exact this
theorem end2 {fn : Func} {F L1 : List HProp} {R : Value → List HProp → Prop} {t u : Tmp} {v x : Value} (hr : fn.results = #[.tmp t, .tmp u]) (hv : E t = v) (hx : E u = x) (hR : R (.tuple #[v, x]) L1) (hs : ∀ w, Sat B w L → Sat B w (L1 ++ F)) :
    retK P B n fn F R .normal E L := by
  have : ∃ v, (∀ a w, RepA a n E → Sat B w L → (results fn a.tmps).run P w = .ok v w) ∧ ∃ L', R v L' ∧ ∀ w, Sat B w L → Sat B w (L' ++ F) :=
    ⟨_, fun a w r _ => by rw [results_tmp2 hr a.tmps P w, r.get t, r.get u, hv, hx], L1, hR, hs⟩
  exact this
end Go.Vc

namespace Go.Vc
variable {P : Program} {B : World} {n : Nat} {ops : Array Oper} {K : Kont} {E : Env} {L L' : List HProp}
variable {d : Option Tmp} {t : TypeId} {ps : String} {af : Array Edge} {gd : Option (Nat × Bool)} {x y : Operand} {v u : Value}

/-! ### 5. The laws of the operations -/
theorem e_mv (h : ev E x = v := by (conv => lhs; whnf)) : Ev P E L ⟨d, .move x, t, ps, af, gd⟩ v := fun _ _ _ => by subst h; rfl
theorem e_as (h : ev E x = v := by (conv => lhs; whnf)) : Ev P E L ⟨d, .assign x, t, ps, af, gd⟩ v := fun _ _ _ => by subst h; rfl
theorem e_pk {c : Operand} {b : Bool} (hc : ev E c = .bool b) (h : (bif b then ev E x else ev E y) = v := by (conv => lhs; whnf)) : Ev P E L ⟨d, .pick c x y, t, ps, af, gd⟩ v := fun _ w _ => by
  subst h; simp only [execOp, hc, asBool]; cases b <;> rfl
theorem e_ex {i : Nat} {T : Array Value} (hx : ev E x = .tuple T) (h : T.getD i undef = v := by (conv => lhs; whnf)) (hi : Nat.blt i T.size = true := by rfl) : Ev P E L ⟨d, .extract x i, t, ps, af, gd⟩ v := fun _ w _ => by
  have hlt : i < T.size := Nat.le_of_ble_eq_true hi
  subst h
  simp [execOp, hx, Instr.extract, hlt]
theorem e_nc {a : Addr} (h : ev E x = .pointer (some a)) : Ev P E L ⟨d, .nilCheck x, t, ps, af, gd⟩ (.pointer (some a)) := fun _ w _ => by
  simp only [execOp, h]; rfl
theorem add_lit (b off k : Nat) : (⟨b, off, none⟩ : Addr).add k = ⟨b, off + k, none⟩ := by unfold Addr.add; split <;> simp_all
theorem e_fa {S fld : Nat} {fs : Array Field} {f : Field} {b off sz k o : Nat} (hu : P.underlying S = some (.struct fs)) (hx : ev E x = .pointer (some ⟨b, off, none⟩)) (hf : fs[fld]? = some f)
    (hs : ∀ w, (sizeOf f.type).run P w = .ok sz w) (hz : Nat.beq sz 0 = false := by rfl) (hk : f.offset = k := by (conv => lhs; whnf)) (ho : off + k = o := by (conv => lhs; try simp only [Nat.add_zero, Nat.zero_add, Nat.reduceAdd])) :
    Ev P E L ⟨d, .fieldAddr S x fld, t, ps, af, gd⟩ (.pointer (some ⟨b, o, none⟩)) := fun _ w _ => by
  have hz' : sz ≠ 0 := fun h => by subst h; cases hz
  subst ho; subst hk
  simp [execOp, Instr.fieldAt, run_underlying hu, hf, hx, Instr.sureAddr, fieldPlace, hs, hz', add_lit]

/-! #### memory -/
theorem cell_blk {w : World} {b off : Nat} {T : TypeId} {cs : List Value} {fr : Nat × Nat} (h : w.heap[b]? = some (.cells ⟨cs⟩ T fr)) : w.cell? ⟨b, off, none⟩ = cs[off]? := by
  rw [cell_of_row w b off _ _ _ h]; simp
def aggD : TypeDesc → Bool
  | .struct _ | .array _ _ => true
  | _ => false
theorem run_isAgg {T : TypeId} {D : TypeDesc} (h : P.underlying T = some D) (w : World) : (isAgg T).run P w = .ok (aggD D) w := by
  simp only [isAgg, Sem.run_bind, run_underlying h, Result.andThen_ok]
  cases D <;> rfl
theorem e_ld {T T' b off : Nat} {D : TypeDesc} {cs : List Value} (hu : P.underlying T = some D) (hx : ev E x = .pointer (some ⟨b, off, none⟩)) (hd : Del (blk b T' cs) L L') (hv : cs[off]? = some v)
    (hD : aggD D = false := by rfl) : Ev P E L ⟨d, .load T x, t, ps, af, gd⟩ v := fun _ w s => by
  have hc := cell_blk (off := off) (s.read hd)
  rw [hv] at hc
  have hi := run_isAgg hu w
  rw [hD] at hi
  simp [execOp, Instr.loadAt, hx, Instr.sureAddr, loadVar, hi, hc]
theorem e_ldA {T T' b off k : Nat} {D : TypeDesc} {cs : List Value} (hu : P.underlying T = some D) (hx : ev E x = .pointer (some ⟨b, off, none⟩)) (hd : Del (blk b T' cs) L L')
    (hs : ∀ w, (sizeOf T).run P w = .ok k w) (hv : off + k ≤ cs.length) (hD : aggD D = true := by rfl) : Ev P E L ⟨d, .load T x, t, ps, af, gd⟩ (.agg ⟨(cs.drop off).take k⟩) := fun _ w s => by
  have hi := run_isAgg hu w
  rw [hD] at hi
  have hlen : ((cs.drop off).take k).length = k := by simp; omega
  have hl := run_loadCells_list (P := P) (w := w) ⟨b, off, none⟩ ((cs.drop off).take k) fun j u hj => by
    rw [add_lit, cell_blk (s.read hd)]
    rw [List.getElem?_take] at hj
    split at hj
    · simpa using hj
    · cases hj
  rw [hlen] at hl
  simp [execOp, Instr.loadAt, hx, Instr.sureAddr, loadVar, hi, hs, hl]

def stR (L' : List HProp) (v : Value) (M : List HProp) : Prop := v = undef ∧ M = L'
theorem heap_setRow (w : World) (g : Nat) (cs cur : Array Value) (T : TypeId) (h : w.heap[g]? = some (.cells cur T (0, 0))) : (w.setRow g cs).heap[g]? = some (.cells cs T (0, 0)) := setRow_heap w g cur cs T _ h
theorem run_storeVar {w : World} {T T' b off k : Nat} {cs : List Value} {u : Value} (hs : ∀ w, (sizeOf T).run P w = .ok k w) (hk : u.cells.size = k) (h1 : ∀ c ∈ u.cells.toList, c.oneCell' = true)
    (hb : w.heap[b]? = some (.cells ⟨cs⟩ T' (0, 0))) (hfit : off + k ≤ cs.length) :
    (storeVar T ⟨b, off, none⟩ u).run P w = .ok () (w.setRow b ⟨cs.take off ++ u.cells.toList ++ cs.drop (off + k)⟩) := by
  have hst := run_storeCells_at P b off T' u.cells.toList 0 ⟨cs⟩ w hb (by simpa [hk] using hfit) h1
  simp only [storeVar, Sem.run_bind, hs, Result.andThen_ok, hk, ne_eq, not_true_eq_false, if_false]
  simpa [hk] using hst

theorem set_take_drop (cs : List Value) (off : Nat) (u : Value) (h : off < cs.length) : cs.take off ++ [u] ++ cs.drop (off + 1) = cs.set off u := by
  rw [List.set_eq_take_append_cons_drop, if_pos h]; simp
theorem s_st {T T' b off : Nat} {cs : List Value} (hs : ∀ w, (sizeOf T).run P w = .ok 1 w) (hx : ev E x = .pointer (some ⟨b, off, none⟩)) (hd : Turn (blk b T' cs) (blk b T' (cs.set off u)) L L')
    (hv : ev E y = u := by (conv => lhs; whnf)) (hlt : off < cs.length := by (first | exact Nat.le_of_ble_eq_true rfl | (simp; done) | (simp only [List.length_append, List.length_set]; omega))) (h1 : u.oneCell' = true := by rfl) : Eff P E L ⟨d, .store T x y, t, ps, af, gd⟩ (stR L') := fun B F w s => by
  have hc : u.cells = #[u] := by cases u <;> first | rfl | cases h1
  obtain ⟨M, d1, d2⟩ := hd.split
  have hb := s.read (d1.append (F := F))
  have hr := run_storeVar (P := P) (T := T) (off := off) (u := u) hs (by rw [hc]; rfl) (by rw [hc]; simpa using h1) hb (by omega)
  simp only [execOp, Instr.storeAt, hx, Instr.sureAddr, hv, Sem.run_bind, Sem.run_pure, Result.andThen_ok, hr, Upon]
  refine ⟨L', ⟨rfl, rfl⟩, s.change hd.append rfl rfl rfl ?_ fun c hc => setRow_other w b c _ hc⟩
  rw [heap_setRow _ _ _ _ _ hb, hc]
  simp only [List.append_assoc]
  rw [← set_take_drop cs off u hlt]; simp
theorem s_stA {T T' b off k : Nat} {cs : List Value} {us : List Value} (hs : ∀ w, (sizeOf T).run P w = .ok k w) (hx : ev E x = .pointer (some ⟨b, off, none⟩)) (hv : ev E y = .agg ⟨us⟩) (hd : Turn (blk b T' cs) (blk b T' (cs.take off ++ us ++ cs.drop (off + k))) L L')
    (hk : us.length = k := by rfl) (hlt : off + k ≤ cs.length := by (first | exact Nat.le_of_ble_eq_true rfl | simp)) (h1 : ∀ u ∈ us, u.oneCell' = true := by simp [Value.oneCell']) : Eff P E L ⟨d, .store T x y, t, ps, af, gd⟩ (stR L') := fun B F w s => by
  obtain ⟨M, d1, d2⟩ := hd.split
  have hb := s.read (d1.append (F := F))
  have hr := run_storeVar (P := P) (T := T) (off := off) (u := .agg ⟨us⟩) hs hk h1 hb (by omega)
  simp only [execOp, Instr.storeAt, hx, Instr.sureAddr, hv, Sem.run_bind, Sem.run_pure, Result.andThen_ok, hr, Upon]
  refine ⟨L', ⟨rfl, rfl⟩, s.change hd.append rfl rfl rfl ?_ fun c hc => setRow_other w b c _ hc⟩
  rw [heap_setRow _ _ _ _ _ hb]
  rfl
theorem sat_new {F : List HProp} {w : World} (s : Sat B w (L ++ F)) (o : Obj) : Sat B { w with heap := w.heap.push o } (pts w.heap.size o :: L ++ F) :=
  s.new rfl rfl rfl (heap_alloc_new w o) fun c hc => RowKit.Below.heap_alloc w o c hc
/-- A new variable. -/
def newR (T : TypeId) (cs : List Value) (L : List HProp) (v : Value) (M : List HProp) : Prop := ∃ b, v = .pointer (some ⟨b, 0, none⟩) ∧ M = blk b T cs :: L
theorem s_al {T : TypeId} {z : Value} (hz : ∀ w, (zeroValue T).run P w = .ok z w) : Eff P E L ⟨d, .alloc T, t, ps, af, gd⟩ (newR T z.cells.toList L) := fun B F w s => by
  simp only [execOp, Instr.alloc, Sem.run_bind, hz, Result.andThen_ok, newVar, newRow, run_newObj, Sem.run_pure, Upon]
  exact ⟨_, ⟨w.heap.size, rfl, rfl⟩, sat_new s _⟩
theorem s_bx {T : TypeId} (hv : ev E x = v := by (conv => lhs; whnf)) : Eff P E L ⟨d, .box T x, t, ps, af, gd⟩ (newR T v.cells.toList L) := fun B F w s => by
  simp only [execOp, Instr.box, hv, Sem.run_bind, newVar, newRow, run_newObj, Sem.run_pure, Result.andThen_ok, Upon]
  exact ⟨_, ⟨w.heap.size, rfl, rfl⟩, sat_new s _⟩
def putC : List Value → Nat → List Value → List Value
  | l, _, [] => l
  | l, o, c :: cs => putC (l.set o c) (o + 1) cs
def fillL (pl : Nat → Option (Nat × Nat)) : List Value → List (Nat × Value) → Option (List Value)
  | l, [] => some l
  | l, (i, v) :: r =>
    match pl i with
    | none => none
    | some (off, sz) => if Nat.beq v.cells.size sz && Nat.ble (off + sz) l.length then fillL pl (putC l off v.cells.toList) r else none
theorem length_putC : ∀ (cs l : List Value) (o : Nat), (putC l o cs).length = l.length := by
  intro cs
  induction cs with
  | nil => intro l o; rfl
  | cons c cs ih => intro l o; rw [putC, ih, List.length_set]
theorem putC_foldl (off : Nat) : ∀ (cs l : List Value) (j : Nat), (cs.zipIdx j).foldl (fun (a : Array Value) (p : Value × Nat) => a.setIfInBounds (off + p.2) p.1) l.toArray = (putC l (off + j) cs).toArray := by
  intro cs
  induction cs with
  | nil => intro l j; rfl
  | cons c cs ih =>
    intro l j
    simp only [List.zipIdx_cons, List.foldl_cons, putC, List.setIfInBounds_toArray]
    rw [ih]; rfl
theorem fill_eq {pl : Nat → Option (Nat × Nat)} : ∀ (ps : List (Nat × Value)) {l cs : List Value}, fillL pl l ps = some cs → Instr.fill pl l.toArray ps = some cs.toArray := by
  intro ps
  induction ps with
  | nil => intro l cs h; cases h; rfl
  | cons p ps ih =>
    obtain ⟨i, v⟩ := p
    intro l cs h
    unfold fillL at h
    unfold Instr.fill
    cases hp : pl i with
    | none => rw [hp] at h; cases h
    | some q =>
      obtain ⟨off, sz⟩ := q
      rw [hp] at h
      simp only at h ⊢
      split at h
      · rename_i hc
        simp only [Bool.and_eq_true] at hc
        have h1 := Nat.eq_of_beq_eq_true hc.1
        have h2 := Nat.le_of_ble_eq_true hc.2
        have h3 : (decide (v.cells.size ≠ sz) || decide (off + v.cells.size > l.toArray.size)) = false := by simp [h1]; omega
        rw [h3]
        simp only [Bool.false_eq_true, if_false]
        have := putC_foldl off v.cells.toList l 0
        rw [← Array.foldl_toList, Array.toList_zipIdx]
        erw [this]
        exact ih h
      · cases h
def plOK (P : Program) (S : TypeId) (pl : Array (Nat × Nat)) : Prop := ∀ fs, P.underlying S = some (.struct fs) → ∀ w, (fs.mapM fun (f : Field) => do pure (f.offset, ← sizeOf f.type)).run P w = .ok pl w
theorem e_bd {S : TypeId} {parts : Array (Nat × Operand)} {fs : Array Field} {pl : Array (Nat × Nat)} {z : Value} {cs : List Value} (hu : P.underlying S = some (.struct fs)) (hz : ∀ w, (zeroValue S).run P w = .ok z w)
    (hp : plOK P S pl) (hf : fillL (pl[·]?) z.cells.toList (parts.toList.map fun p => (p.1, ev E p.2)) = some cs) :
    Ev P E L ⟨d, .build S parts, t, ps, af, gd⟩ (.agg ⟨cs⟩) := fun _ w _ => by
  have hf' : Instr.fill (fun j => pl[j]?) z.cells (parts.map fun p => (p.1, ev E p.2)).toList = some ⟨cs⟩ := by simpa using fill_eq _ hf
  have hp' := hp fs hu w
  simp only [execOp, Instr.build, Sem.run_bind, hz, run_underlying hu, Result.andThen_ok]
  rw [hp']
  simp only [Result.andThen_ok]
  erw [hf']
  rfl
/-- A new slice of so many elements. -/
def newS (T : TypeId) (cs : List Value) (n m : Nat) (L : List HProp) (v : Value) (M : List HProp) : Prop := ∃ b, v = .slice (some ⟨b, 0, none⟩) n m ∧ M = blk b T cs :: L
theorem s_bs0 {S e k : Nat} (hu : P.underlying S = some (.slice e)) (hs : ∀ w, (sizeOf e).run P w = .ok k w) : Eff P E L ⟨d, .buildSlice S 0 #[], t, ps, af, gd⟩ (newS e [] 0 0 L) := fun B F w s => by
  simp only [execOp, Instr.buildSlice, Sem.run_bind, run_underlying hu, hs, Result.andThen_ok]
  rw [show Array.range (0 * k) = #[] by rw [Nat.zero_mul]; rfl]
  simp [Instr.fill, newRow]
  have h := sat_new s (.cells #[] e)
  exact ⟨_, ⟨w.heap.size, rfl, rfl⟩, h⟩
theorem s_bs {S e k m : Nat} {z : Value} {parts : Array (Nat × Operand)} {cs : List Value} (hu : P.underlying S = some (.slice e)) (hs : ∀ w, (sizeOf e).run P w = .ok k w) (hz : ∀ w, (zeroValue e).run P w = .ok z w)
    (hf : fillL (fun i => some (i * k, k)) ((List.range (m * k)).map (z.cells[· % z.cells.size]!)) (parts.toList.map fun p => (p.1, ev E p.2)) = some cs)
    (h0 : Nat.beq (m * k) 0 = false := by rfl) (hm : Nat.ble (m * k) 16777216 = true := by rfl) : Eff P E L ⟨d, .buildSlice S m parts, t, ps, af, gd⟩ (newS e cs m m L) := fun B F w s => by
  have h0' : m * k ≠ 0 := fun h => by rw [h] at h0; cases h0
  have hm' := Nat.le_of_ble_eq_true hm
  have hf' : Instr.fill (fun i => some (i * k, k)) ((Array.range (m * k)).map (z.cells[· % z.cells.size]!)) (parts.map fun p => (p.1, ev E p.2)).toList = some ⟨cs⟩ := by
    have h := fill_eq _ hf
    have e : ((List.range (m * k)).map (z.cells[· % z.cells.size]!)).toArray = (Array.range (m * k)).map (z.cells[· % z.cells.size]!) := by
      apply Array.ext'; simp
    rw [e] at h
    rw [Array.toList_map]
    exact h
  simp only [execOp, Instr.buildSlice, Sem.run_bind, run_underlying hu, hs, Result.andThen_ok, if_neg h0', Sem.run_pure]
  have hm2 : ¬ m * k > 2 ^ 24 := by omega
  rw [if_neg hm2]
  simp only [Sem.run_bind, hz, Sem.run_pure, Result.andThen_ok]
  erw [hf']
  simp only [Sem.run_bind, newRow, run_newObj, Sem.run_pure, Result.andThen_ok, Upon]
  exact ⟨_, ⟨w.heap.size, rfl, rfl⟩, sat_new s _⟩
end Go.Vc

namespace Go.Vc
variable {P : Program} {B : World} {n : Nat} {ops : Array Oper} {K : Kont} {E : Env} {L L' : List HProp}
variable {d : Option Tmp} {t T U : TypeId} {ps : String} {af : Array Edge} {gd : Option (Nat × Bool)} {x y : Operand} {v u : Value} {k : IntKind} {i j : Int}

/-! #### numbers -/
theorem wrap_id (k : IntKind) (n : Int) (h1 : k.min ≤ n) (h2 : n ≤ k.max) : k.wrap n = n := by
  cases k <;> simp [IntKind.wrap, IntKind.min, IntKind.max, IntKind.bits, IntKind.signed] at * <;> (try split) <;> omega
theorem binOp_int (op : BinOp) (T : TypeId) (a b : Int) (h : op ≠ .shl ∧ op ≠ .shr) : binOp op T (.int k a) (.int k b) = match op with
    | .add | .sub | .mul => Op.intArith op k a b
    | .quo | .rem => Op.intDiv op k a b
    | .and | .or | .xor | .andNot => Op.intBits op k a b
    | _ => Op.intCmp op a b := by
  cases op <;> simp [binOp] at h ⊢
theorem guard_int (op : BinOp) (w : World) (T : TypeId) (x y : Operand) (a b : Int) : (eqGuard op T x y (.int k a) (.int k b)).run P w = .ok () w := by
  unfold eqGuard; split <;> rfl
section
variable (hx : ev E x = .int k i) (hy : ev E y = .int k j)
include hx hy
theorem e_add (h : k.wrap (i + j) = i + j) : Ev P E L ⟨d, .binOp .add T x y U, t, ps, af, gd⟩ (.int k (i + j)) := fun _ w _ => by
  simp [execOp, hx, hy, guard_int, binOp_int, Op.intArith, h]
theorem e_addw : Ev P E L ⟨d, .binOp .add T x y U, t, ps, af, gd⟩ (.int k (k.wrap (i + j))) := fun _ w _ => by
  simp [execOp, hx, hy, guard_int, binOp_int, Op.intArith]
theorem e_sub (h : k.wrap (i - j) = i - j) : Ev P E L ⟨d, .binOp .sub T x y U, t, ps, af, gd⟩ (.int k (i - j)) := fun _ w _ => by
  simp [execOp, hx, hy, guard_int, binOp_int, Op.intArith, h]
theorem e_subw : Ev P E L ⟨d, .binOp .sub T x y U, t, ps, af, gd⟩ (.int k (k.wrap (i - j))) := fun _ w _ => by
  simp [execOp, hx, hy, guard_int, binOp_int, Op.intArith]
theorem e_mul (h : k.wrap (i * j) = i * j) : Ev P E L ⟨d, .binOp .mul T x y U, t, ps, af, gd⟩ (.int k (i * j)) := fun _ w _ => by
  simp [execOp, hx, hy, guard_int, binOp_int, Op.intArith, h]
theorem e_mulw : Ev P E L ⟨d, .binOp .mul T x y U, t, ps, af, gd⟩ (.int k (k.wrap (i * j))) := fun _ w _ => by
  simp [execOp, hx, hy, guard_int, binOp_int, Op.intArith]
theorem e_quo (h0 : j ≠ 0) : Ev P E L ⟨d, .binOp .quo T x y U, t, ps, af, gd⟩ (.int k (k.wrap (i.tdiv j))) := fun _ w _ => by
  simp [execOp, hx, hy, guard_int, binOp_int, Op.intDiv, h0]
theorem e_rem (h0 : j ≠ 0) : Ev P E L ⟨d, .binOp .rem T x y U, t, ps, af, gd⟩ (.int k (i.tmod j)) := fun _ w _ => by
  simp [execOp, hx, hy, guard_int, binOp_int, Op.intDiv, h0]
theorem e_and : Ev P E L ⟨d, .binOp .and T x y U, t, ps, af, gd⟩ (.int k (k.wrap (BitVec.ofInt k.bits i &&& BitVec.ofInt k.bits j).toNat)) := fun _ w _ => by
  simp [execOp, hx, hy, guard_int, binOp_int, Op.intBits]
theorem e_or : Ev P E L ⟨d, .binOp .or T x y U, t, ps, af, gd⟩ (.int k (k.wrap (BitVec.ofInt k.bits i ||| BitVec.ofInt k.bits j).toNat)) := fun _ w _ => by
  simp [execOp, hx, hy, guard_int, binOp_int, Op.intBits]
theorem e_xor : Ev P E L ⟨d, .binOp .xor T x y U, t, ps, af, gd⟩ (.int k (k.wrap (BitVec.ofInt k.bits i ^^^ BitVec.ofInt k.bits j).toNat)) := fun _ w _ => by
  simp [execOp, hx, hy, guard_int, binOp_int, Op.intBits]
theorem e_eq : Ev P E L ⟨d, .binOp .eql T x y U, t, ps, af, gd⟩ (.bool (decide (i = j))) := fun _ w _ => by
  simp [execOp, hx, hy, guard_int, binOp_int, Op.intCmp]; rfl
theorem e_ne : Ev P E L ⟨d, .binOp .neq T x y U, t, ps, af, gd⟩ (.bool (!decide (i = j))) := fun _ w _ => by
  simp [execOp, hx, hy, guard_int, binOp_int, Op.intCmp]; rfl
theorem e_lt : Ev P E L ⟨d, .binOp .lss T x y U, t, ps, af, gd⟩ (.bool (decide (i < j))) := fun _ w _ => by
  simp [execOp, hx, hy, guard_int, binOp_int, Op.intCmp]
theorem e_le : Ev P E L ⟨d, .binOp .leq T x y U, t, ps, af, gd⟩ (.bool (decide (i ≤ j))) := fun _ w _ => by
  simp [execOp, hx, hy, guard_int, binOp_int, Op.intCmp]
theorem e_gt : Ev P E L ⟨d, .binOp .gtr T x y U, t, ps, af, gd⟩ (.bool (decide (j < i))) := fun _ w _ => by
  simp [execOp, hx, hy, guard_int, binOp_int, Op.intCmp]
theorem e_ge : Ev P E L ⟨d, .binOp .geq T x y U, t, ps, af, gd⟩ (.bool (decide (j ≤ i))) := fun _ w _ => by
  simp [execOp, hx, hy, guard_int, binOp_int, Op.intCmp]
end
section
variable {k' : IntKind} (hx : ev E x = .int k i) (hy : ev E y = .int k' j)
include hx hy
theorem e_shl (h0 : 0 ≤ j) : Ev P E L ⟨d, .binOp .shl T x y U, t, ps, af, gd⟩ (.int k (k.wrap (i * 2 ^ (min j.toNat k.bits)))) := fun _ w _ => by
  have : ¬ j < 0 := by omega
  simp [execOp, hx, hy, eqGuard, binOp, Op.shift, this]
theorem e_shr (h0 : 0 ≤ j) : Ev P E L ⟨d, .binOp .shr T x y U, t, ps, af, gd⟩ (.int k (i.fdiv (2 ^ (min j.toNat k.bits)))) := fun _ w _ => by
  have : ¬ j < 0 := by omega
  simp [execOp, hx, hy, eqGuard, binOp, Op.shift, this]
end
theorem e_cv {k' : IntKind} {D : TypeDesc} (hs : P.underlying T = some D) (hu : P.underlying U = some (.int k')) (hx : ev E x = .int k i) : Ev P E L ⟨d, .convert T U x, t, ps, af, gd⟩ (.int k' (k'.wrap i)) := fun _ w _ => by
  simp only [execOp, convert, Sem.run_bind, run_underlying hs, run_underlying hu, Result.andThen_ok, hx]
  cases D <;> rfl
theorem e_not {b c : Bool} (hx : ev E x = .bool b) (h : (!b) = c := by (conv => lhs; whnf)) : Ev P E L ⟨d, .unOp .not T x, t, ps, af, gd⟩ (.bool c) := fun _ w _ => by
  subst h; simp [execOp, hx, Op.unary]
theorem e_not' {b : Bool} (hx : ev E x = .bool b) : Ev P E L ⟨d, .unOp .not T x, t, ps, af, gd⟩ (.bool (!b)) := fun _ w _ => by
  simp [execOp, hx, Op.unary]
theorem guard_bool (op : BinOp) (w : World) (T : TypeId) (x y : Operand) (a b : Bool) : (eqGuard op T x y (.bool a) (.bool b)).run P w = .ok () w := by
  unfold eqGuard; split <;> rfl
theorem guard_ptr (op : BinOp) (w : World) (T : TypeId) (x y : Operand) (a b : Option Addr) : (eqGuard op T x y (.pointer a) (.pointer b)).run P w = .ok () w := by
  unfold eqGuard; split <;> rfl
theorem guard_sl (op : BinOp) (w : World) (T : TypeId) (x y : Operand) (a b : Option Addr) (m c m' c' : Nat) : (eqGuard op T x y (.slice a m c) (.slice b m' c')).run P w = .ok () w := by
  unfold eqGuard; split <;> rfl
theorem guard_str (op : BinOp) (w : World) (T : TypeId) (x y : Operand) (a b : ByteArray) : (eqGuard op T x y (.string a) (.string b)).run P w = .ok () w := by
  unfold eqGuard; split <;> rfl
theorem guard_map (op : BinOp) (w : World) (T : TypeId) (x y : Operand) (a b : Option Nat) : (eqGuard op T x y (.map a) (.map b)).run P w = .ok () w := by
  unfold eqGuard; split <;> rfl
theorem e_eqb {a b : Bool} (hu : P.underlying T = some .bool) (hx : ev E x = .bool a) (hy : ev E y = .bool b) : Ev P E L ⟨d, .binOp .eql T x y U, t, ps, af, gd⟩ (.bool (a == b)) := fun _ w _ => by
  simp only [execOp, hx, hy, Sem.run_bind, guard_bool, Result.andThen_ok, run_eql_bool w T a b hu, Sem.run_pure]
theorem e_neb {a b : Bool} (hu : P.underlying T = some .bool) (hx : ev E x = .bool a) (hy : ev E y = .bool b) : Ev P E L ⟨d, .binOp .neq T x y U, t, ps, af, gd⟩ (.bool (!(a == b))) := fun _ w _ => by
  simp only [execOp, hx, hy, Sem.run_bind, guard_bool, Result.andThen_ok, run_neq_bool w T a b hu, Sem.run_pure]
theorem nn_some {α : Type} {x : α} : (!(some x).isNone) = true := rfl
theorem nn_none {α : Type} : (!(none : Option α).isNone) = false := rfl
theorem e_eqp {a : Option Addr} {e : TypeId} {b : Bool} (hu : P.underlying T = some (.pointer e)) (hx : ev E x = .pointer a) (hy : ev E y = .pointer none) (h : a.isNone = b := by first | exact Option.isNone_some | exact Option.isNone_none | rfl) : Ev P E L ⟨d, .binOp .eql T x y U, t, ps, af, gd⟩ (.bool b) := fun _ w _ => by
  subst h
  have hp : P.pointee T = e := by simp [Program.pointee, hu]
  simp only [execOp, hx, hy, Sem.run_bind, guard_ptr, Result.andThen_ok, run_eql_pointer_nil w T a (by rw [hp]; exact hu), Sem.run_pure]
theorem e_nep {a : Option Addr} {e : TypeId} {b : Bool} (hu : P.underlying T = some (.pointer e)) (hx : ev E x = .pointer a) (hy : ev E y = .pointer none) (h : (!a.isNone) = b := by first | exact nn_some | exact nn_none | rfl) : Ev P E L ⟨d, .binOp .neq T x y U, t, ps, af, gd⟩ (.bool b) := fun _ w _ => by
  subst h
  have hp : P.pointee T = e := by simp [Program.pointee, hu]
  simp only [execOp, hx, hy, Sem.run_bind, guard_ptr, Result.andThen_ok, run_neq_pointer_nil w T a (by rw [hp]; exact hu), Sem.run_pure]
theorem e_eqn {a : Option Addr} {m c m' c' : Nat} {e : TypeId} {b : Bool} (hu : P.underlying T = some (.slice e)) (hx : ev E x = .slice a m c) (hy : ev E y = .slice none m' c') (h : a.isNone = b := by first | exact Option.isNone_some | exact Option.isNone_none | rfl) : Ev P E L ⟨d, .binOp .eql T x y U, t, ps, af, gd⟩ (.bool b) := fun _ w _ => by
  subst h
  have h1 : (binOp .eql T (.slice a m c) (.slice none m' c')).run P w = .ok (.bool a.isNone) w :=
    Lib.run_eql_slice_nil w T e a m c m' c' hu
  simp only [execOp, hx, hy, Sem.run_bind, guard_sl, Result.andThen_ok, h1, Sem.run_pure]
theorem e_nen {a : Option Addr} {m c m' c' : Nat} {e : TypeId} {b : Bool} (hu : P.underlying T = some (.slice e)) (hx : ev E x = .slice a m c) (hy : ev E y = .slice none m' c') (h : (!a.isNone) = b := by first | exact nn_some | exact nn_none | rfl) : Ev P E L ⟨d, .binOp .neq T x y U, t, ps, af, gd⟩ (.bool b) := fun _ w _ => by
  subst h
  have h1 : (binOp .neq T (.slice a m c) (.slice none m' c')).run P w = .ok (.bool !a.isNone) w :=
    run_neq_slice_nil_any w T e a m c m' c' hu
  simp only [execOp, hx, hy, Sem.run_bind, guard_sl, Result.andThen_ok, h1, Sem.run_pure]
end Go.Vc

namespace Go.Vc
variable {P : Program} {B : World} {n : Nat} {ops : Array Oper} {K : Kont} {E : Env} {L L' : List HProp}
variable {d : Option Tmp} {t T U : TypeId} {ps : String} {af : Array Edge} {gd : Option (Nat × Bool)} {x y : Operand} {v u : Value} {k : IntKind} {i j : Int}

/-! #### calls -/
theorem s_call {f : FuncId} {as : Array Operand} {ts : Array TypeId} {vs : List Value} {L1 F : List HProp} {R : Value → List HProp → Prop} (C : Tri P f ⟨vs⟩ L1 R) (hp : Pick L1 L F) (hv : as.toList.map (ev E) = vs := by rfl) :
    Eff P E L ⟨d, .call ⟨.value (.func f), as, ts⟩, t, ps, af, gd⟩ (fun v M => ∃ L2, R v L2 ∧ M = L2 ++ F) := fun B G w s => by
  have hc := C B (F ++ G) w (s.imp fun f h => hp.append.to h)
  have he : (execOp (ev E) ⟨d, .call ⟨.value (.func f), as, ts⟩, t, ps, af, gd⟩).run P w = (callFunc f ⟨vs⟩).run P w := by
    have hv' : as.map (ev E) = ⟨vs⟩ := Array.ext' (by rw [Array.toList_map, hv])
    simp only [execOp, resolve, ev, Deferred.ofValue, Sem.run_bind, Sem.run_pure, Result.andThen_ok, invoke, hv', Array.empty_append, Array.append_empty]
  rw [he]
  unfold Call at hc
  revert hc
  generalize (callFunc f ⟨vs⟩).run P w = r
  intro hc
  have imp : ∀ v w', (∃ L', R v L' ∧ Sat B w' (L' ++ (F ++ G))) → ∃ L', (∃ L2, R v L2 ∧ L' = L2 ++ F) ∧ Sat B w' (L' ++ G) := fun v w' ⟨L', h1, h2⟩ => ⟨_, ⟨L', h1, rfl⟩, by rw [List.append_assoc]; exact h2⟩
  cases r with
  | ok y w' =>
    cases y <;> simp only [Upon] at hc ⊢
    case value => exact imp _ _ hc
    case skip => exact imp _ _ hc
    case enter => exact Calls.mono hc fun e w'' ⟨v, he, h⟩ => ⟨v, he, imp _ _ h⟩
    case row => exact Rows.mono hc fun v w'' h => imp _ _ h
  | halt y w' => exact hc.elim

/-! #### slices -/
def Rds (w : World) (k : Nat) (v : Value) (m : Nat) (xs : List Value) : Prop :=
  xs.length = m * k ∧ ∃ a c, v = .slice a m c ∧ (a = none → m = 0 ∧ c = 0) ∧ ∀ ad, a = some ad → ∀ j u, xs[j]? = some u → w.cell? (ad.add j) = some u
def sown (e k : Nat) (v : Value) (m : Nat) (xs : List Value) : HProp := fun f =>
  xs.length = m * k ∧ ((v = .slice none 0 0 ∧ m = 0 ∧ ∀ b, f b = none) ∨ ∃ b cap rest, v = .slice (some ⟨b, 0, none⟩) m cap ∧ m ≤ cap ∧ cap ≤ maxLen ∧ xs.length + rest.length = cap * k ∧ blk b e (xs ++ rest) f)
def isNil : Value → Bool
  | .slice none _ _ => true
  | _ => false

def slV (v : Value) (m : Nat) : Prop := ∃ a c, v = .slice a m c ∧ (a = none → m = 0 ∧ c = 0) ∧ isNil v = a.isNone
theorem Rds.slv {w : World} {k m : Nat} {xs : List Value} (h : Rds w k v m xs) : slV v m := by
  obtain ⟨_, a, c, h1, h2, _⟩ := h
  exact ⟨a, c, h1, h2, by subst h1; cases a <;> rfl⟩

theorem Del.hereS {e k m m' : Nat} {v v' : Value} {xs xs' : List Value} {L : List HProp} (h1 : v = v') (h2 : m = m') (h3 : xs = xs') : Del (sown e k v m xs) (sown e k v' m' xs' :: L) L := by subst h1; subst h2; subst h3; exact .here
theorem Sat.rds {w : World} {e k m : Nat} {xs : List Value} (s : Sat B w L) (hd : Del (sown e k v m xs) L L') : Rds w k v m xs := by
  obtain ⟨f, ⟨g, h, ⟨hl, hg⟩, _, hdd, he⟩, hf⟩ := (s.front hd).heap
  refine ⟨hl, ?_⟩
  rcases hg with ⟨rfl, rfl, _⟩ | ⟨b, cap, rest, rfl, _, _, _, hb, _⟩
  · exact ⟨_, _, rfl, fun _ => ⟨rfl, rfl⟩, fun _ h => by cases h⟩
  · refine ⟨_, _, rfl, (fun h => by cases h), fun ad had j u hj => ?_⟩
    cases had
    have hh := hf b _ (by rw [he b, hb]; rfl)
    rw [add_lit, cell_blk hh, Nat.zero_add, List.getElem?_append_left (List.getElem?_eq_some_iff.1 hj).1]
    exact hj

theorem e_len {a : Option Addr} {m c e : Nat} (hu : P.underlying T = some (.slice e)) (hx : ev E x = .slice a m c) : Ev P E L ⟨d, .call ⟨.builtin .len, #[x], #[T]⟩, t, ps, af, gd⟩ (.int .i64 (m : Int)) := fun _ w _ => by
  simp [execOp, resolve, invoke, builtin, hx, Builtin.len_, run_underlying hu, goInt]
theorem e_lens {s : ByteArray} (hu : P.underlying T = some .string) (hx : ev E x = .string s) : Ev P E L ⟨d, .call ⟨.builtin .len, #[x], #[T]⟩, t, ps, af, gd⟩ (.int .i64 (s.size : Int)) := fun _ w _ => by
  simp [execOp, resolve, invoke, builtin, hx, Builtin.len_, run_underlying hu, goInt]
theorem e_ia {b off m c e k q o : Nat} (hu : P.underlying T = some (.slice e)) (hs : ∀ w, (sizeOf e).run P w = .ok k w) (hx : ev E x = .slice (some ⟨b, off, none⟩) m c) {ik : IntKind} (hy : ev E y = .int ik i) (h0 : i = (q : Int)) (h1 : q < m) (ho : off + q * k = o := by (conv => lhs; try simp only [Nat.add_zero, Nat.zero_add, Nat.reduceAdd, Nat.mul_one, Nat.reduceMul])) :
    Ev P E L ⟨d, .indexAddr T x y, t, ps, af, gd⟩ (.pointer (some ⟨b, o, none⟩)) := fun _ w _ => by
  subst h0; subst ho
  simp [execOp, Instr.indexAt, hx, hy, asIntOf, run_underlying hu, h1, hs, add_lit]
theorem e_iap {b off len e k q o : Nat} (hu : P.underlying T = some (.array len e)) (hs : ∀ w, (sizeOf e).run P w = .ok k w) (hx : ev E x = .pointer (some ⟨b, off, none⟩)) {ik : IntKind} (hy : ev E y = .int ik i) (h0 : i = (q : Int)) (h1 : q < len) (ho : off + q * k = o := by (conv => lhs; try simp only [Nat.add_zero, Nat.zero_add, Nat.reduceAdd, Nat.mul_one, Nat.reduceMul])) :
    Ev P E L ⟨d, .indexAddr T x y, t, ps, af, gd⟩ (.pointer (some ⟨b, o, none⟩)) := fun _ w _ => by
  subst h0; subst ho
  simp [execOp, Instr.indexAt, hx, hy, asIntOf, run_underlying hu, h1, hs, add_lit, Instr.sureAddr]

theorem own_open {w : World} {e k m : Nat} {xs F : List _} (s : Sat B w (sown e k v m xs :: F)) : xs.length = m * k ∧ ((v = .slice none 0 0 ∧ m = 0 ∧ Sat B w F) ∨ ∃ b cap rest, v = .slice (some ⟨b, 0, none⟩) m cap ∧ m ≤ cap ∧ cap ≤ maxLen ∧ xs.length + rest.length = cap * k ∧ Sat B w (blk b e (xs ++ rest) :: F)) := by
  obtain ⟨f, ⟨g, h, ⟨hl, hg⟩, hF, hdd, he⟩, hf⟩ := s.heap
  refine ⟨hl, ?_⟩
  rcases hg with ⟨h1, h2, h3⟩ | ⟨b, cap, rest, h1, h2, h3, h4, hb⟩
  · exact .inl ⟨h1, h2, s.tail⟩
  · exact .inr ⟨b, cap, rest, h1, h2, h3, h4, s.os, s.tape, s.output, f, ⟨g, h, hb, hF, hdd, he⟩, hf⟩
theorem own_shut {w : World} {e k m b cap : Nat} {xs rest : List Value} {F : List HProp} (hl : xs.length = m * k) (h2 : m ≤ cap) (h3 : cap ≤ maxLen) (h4 : xs.length + rest.length = cap * k) (s : Sat B w (blk b e (xs ++ rest) :: F)) : Sat B w (sown e k (.slice (some ⟨b, 0, none⟩) m cap) m xs :: F) :=
  s.imp fun _ => sepL_mono (fun _ h => ⟨hl, .inr ⟨b, cap, rest, rfl, h2, h3, h4, h⟩⟩) fun _ h => h

def apR (e k m : Nat) (xs : List Value) (c : Nat) (v : Value) (L' : List HProp) (v' : Value) (M : List HProp) : Prop := ∃ a' c', v' = .slice a' m c' ∧ M = sown e k (.slice a' m c') m xs :: L' ∧ a'.isNone = (isNil v && Nat.beq c 0)
theorem run_ap0 {w : World} {e : Nat} {a : Option Addr} {m cp c' : Nat} {i : TypeInfo} (ht : P.underlying T = some (.slice e)) (hi : P.info? e = some i) (hc : m ≤ cp) :
    (Builtin.append_ #[T, T] t #[.slice a m cp, .slice none 0 c']).run P w = .ok (.slice a m cp) w := by
  cases a <;> simp [Builtin.append_, run_underlying ht, sizeOf, typeInfo, hi, Builtin.lenOf, Builtin.firstCells, hc, storeCells]
theorem zlen (z : Array Value) (q : Nat) : (Builtin.zeroCells z q).toList.length = q * z.size := by rw [Array.length_toList, size_zeroCells]
theorem drewS {w : World} (s : Sat B w L) : Sat B w.drew L := s.same rfl rfl rfl rfl
theorem s_ap {e k bytes m c : Nat} {i : TypeInfo} {z : Value} {xs news : List Value} (ht : P.underlying T = some (.slice e)) (hi : P.info? e = some i) (hz : i.zero = some z) (hk : i.size = k) (hby : i.bytes = bytes) (hzs : z.cells.size = k) (hk0 : 0 < k)
    (hx : ev E x = v) (hy : ev E y = u) (hd : Del (sown e k v m xs) L L') (hr : ∀ B w, Sat B w L → Rds w k u c news) (h1 : ∀ u ∈ news, u.oneCell' = true) (hb : (m + c) * bytes ≤ 140737488355328) (hm : m + c ≤ maxLen) :
    Eff P E L ⟨d, .call ⟨.builtin .append, #[x, y], #[T, T]⟩, t, ps, af, gd⟩ (apR e k (m + c) (xs ++ news) c v L') := fun B F w s => by
  have hrun : ∀ v' w', (Builtin.append_ #[T, T] t #[v, u]).run P w = .ok v' w' → (execOp (ev E) ⟨d, .call ⟨.builtin .append, #[x, y], #[T, T]⟩, t, ps, af, gd⟩).run P w = .ok (.value v') w' := fun v' w' h => by
    simp [execOp, resolve, invoke, builtin, hx, hy, h]
  have key : ∃ v' w', (Builtin.append_ #[T, T] t #[v, u]).run P w = .ok v' w' ∧ Sat B w' (sown e k v' (m + c) (xs ++ news) :: L' ++ F) ∧ isNil v' = (isNil v && Nat.beq c 0) := by
    obtain ⟨hnl, ad, cc, rfl, hnil, hcell⟩ := hr B w s.left
    subst hk; subst hby
    obtain ⟨hxl, hown⟩ := own_open (s.front hd.append)
    have hsmall : m + c ≤ 9223372036854775807 := by simp only [maxLen] at hm; omega
    have hlen : (xs ++ news).length = (m + c) * i.size := by rw [List.length_append, hxl, hnl, Nat.add_mul]
    cases ad with
    | none =>
      obtain ⟨rfl, rfl⟩ := hnil rfl
      have hn : news = [] := List.eq_nil_of_length_eq_zero (by simpa using hnl)
      subst hn
      have hle : ∃ a cp, v = .slice a m cp ∧ m ≤ cp := by
        rcases hown with ⟨rfl, rfl, _⟩ | ⟨b, cap, rest, rfl, h, _⟩
        · exact ⟨_, _, rfl, Nat.le_refl _⟩
        · exact ⟨_, _, rfl, h⟩
      obtain ⟨a, cp, rfl, hle⟩ := hle
      refine ⟨_, _, run_ap0 ht hi hle, ?_, by simp [Nat.beq]⟩
      simpa using s.front hd.append
    | some ad =>
      have hnews := hcell ad rfl
      rcases hown with ⟨rfl, rfl, s'⟩ | ⟨b, cap, rest, rfl, hmc, hcm, hrl, s'⟩
      · have hx0 : xs = [] := List.eq_nil_of_length_eq_zero (by simpa using hxl)
        subst hx0
        by_cases hc : c = 0
        · subst hc
          have hn : news = [] := List.eq_nil_of_length_eq_zero (by simpa using hnl)
          subst hn
          refine ⟨.slice none 0 0, w, ?_, ?_, rfl⟩
          · simp [Builtin.append_, run_underlying ht, sizeOf, typeInfo, hi, Builtin.lenOf, Builtin.firstCells, loadCells, loadCellsFrom]
          · simpa using s.front hd.append
        · refine ⟨_, _, run_append_nil w T t e i z ht hi hz ad c cc news hnl hnews (by omega) (by omega) (by rw [Nat.zero_add] at hb; omega), ?_, by cases c <;> simp [isNil, Nat.beq] at hc ⊢⟩
          have hge := grownCap_ge w c 0 e
          have sn := (drewS s').new (o := .cells (news.toArray ++ Builtin.zeroCells z.cells (grownCap w c 0 e - c)) e) (w' := w.drew.alloc _) rfl rfl rfl (heap_alloc_new w.drew _) fun q hq => RowKit.Below.heap_alloc _ _ _ hq
          simp only [Nat.zero_add, List.nil_append] at hlen ⊢
          refine own_shut (rest := (Builtin.zeroCells z.cells (grownCap w c 0 e - c)).toList) hlen hge (grownCap_le_maxLen w c 0 e (by omega)) ?_ (sn.imp fun _ h => ?_)
          · rw [zlen, hzs, hlen, ← Nat.add_mul]; congr 1; omega
          · have : (⟨news ++ (Builtin.zeroCells z.cells (grownCap w c 0 e - c)).toList⟩ : Array Value) = news.toArray ++ Builtin.zeroCells z.cells (grownCap w c 0 e - c) := by simp
            unfold blk; rw [this]; exact h
      · have hbk := s'.read (L' := L' ++ F) .here
        by_cases hroom : m + c ≤ cap
        · have hfit : m * i.size + news.length ≤ (⟨xs ++ rest⟩ : Array Value).size := by
            have := Nat.mul_le_mul_right i.size hroom
            rw [Nat.add_mul] at this
            simp only [List.size_toArray, List.length_append]; omega
          have hr := run_append_room (P := P) w T t e i ht hi b m cap ⟨xs ++ rest⟩ hbk ad c cc news hnl hnews h1 hroom hfit
          refine ⟨_, _, hr, ?_, by simp [isNil]⟩
          have hcs : (List.take (m * i.size) (⟨xs ++ rest⟩ : Array Value).toList ++ news ++ List.drop (m * i.size + news.length) (⟨xs ++ rest⟩ : Array Value).toList) = xs ++ news ++ rest.drop news.length := by
            simp only [List.take_append, List.drop_append, ← hxl, List.take_length, Nat.sub_self, List.take_zero, List.append_nil]
            rw [List.drop_eq_nil_of_le (by omega)]; simp
          rw [hcs]
          refine own_shut (rest := rest.drop news.length) hlen hroom hcm ?_ (s'.change .here rfl rfl rfl (setRow_heap w b _ _ e _ hbk) fun c hc => setRow_other w b c _ hc)
          have := Nat.mul_le_mul_right i.size hroom
          rw [Nat.add_mul] at this
          simp only [List.length_append, List.length_drop]; omega
        · have holds : ∀ j u, xs[j]? = some u → w.cell? ((⟨b, 0, none⟩ : Addr).add j) = some u := fun j u hj => by
            rw [add_lit, cell_blk hbk, Nat.zero_add, List.getElem?_append_left (List.getElem?_eq_some_iff.1 hj).1]; exact hj
          have hr := run_append_grow (P := P) w T t e i z ht hi hz ⟨b, 0, none⟩ m cap xs hxl holds ad c cc news hnl hnews (by omega) (by omega) (growslice_fits (by omega) hb)
          refine ⟨_, _, hr, ?_, by simp [isNil]⟩
          have hge := grownCap_ge w (m + c) cap e
          have sn := (drewS s'.tail).new (o := .cells (xs.toArray ++ news.toArray ++ Builtin.zeroCells z.cells (grownCap w (m + c) cap e - (m + c))) e) (w' := w.drew.alloc _) rfl rfl rfl (heap_alloc_new w.drew _) fun q hq => RowKit.Below.heap_alloc _ _ _ hq
          refine own_shut (rest := (Builtin.zeroCells z.cells (grownCap w (m + c) cap e - (m + c))).toList) hlen hge (grownCap_le_maxLen w _ cap e hm) ?_ (sn.imp fun _ h => ?_)
          · rw [zlen, hzs, hlen, ← Nat.add_mul]; congr 1; omega
          · have : (⟨xs ++ news ++ (Builtin.zeroCells z.cells (grownCap w (m + c) cap e - (m + c))).toList⟩ : Array Value) = xs.toArray ++ news.toArray ++ Builtin.zeroCells z.cells (grownCap w (m + c) cap e - (m + c)) := by simp
            unfold blk; rw [this]; exact h
  obtain ⟨v', w', hr1, hs1, hn1⟩ := key
  rw [hrun v' w' hr1]
  obtain ⟨a', c', rfl, _, hni⟩ := (hs1.rds (L' := L' ++ F) .here).slv
  exact ⟨_, ⟨a', c', rfl, rfl, hni ▸ hn1⟩, hs1⟩
end Go.Vc

namespace Go.Vc
variable {P : Program} {B : World} {n : Nat} {ops : Array Oper} {K : Kont} {E : Env} {L L' : List HProp}
variable {d : Option Tmp} {t T U : TypeId} {ps : String} {af : Array Edge} {gd : Option (Nat × Bool)} {x y : Operand} {v u : Value} {k : IntKind} {i j : Int}

/-! #### bytes and strings -/
def bv (bs : List UInt8) : List Value := bs.map fun b => .int .u8 (b.toNat : Int)
theorem foldl_push (ns : List UInt8) : ∀ s : ByteArray, (ns.map fun b => (b.toNat : Int)).foldl (fun r n => r.push (UInt8.ofNat n.toNat)) s = ⟨s.data ++ ns.toArray⟩ := by
  induction ns with
  | nil => intro s; simp
  | cons a ns ih =>
    intro s
    simp only [List.map_cons, List.foldl_cons]
    rw [ih]
    simp [ByteArray.push]
theorem loadCells_rds {w : World} {a : Addr} {xs : List Value} {m : Nat} (h : ∀ j u, xs[j]? = some u → w.cell? (a.add j) = some u) (hm : xs.length = m) : (loadCells a m).run P w = .ok xs.toArray w := by
  subst hm; exact run_loadCells_list w a xs h
theorem e_b2s {e m : Nat} {bs : List UInt8} (hs : P.underlying T = some (.slice e)) (he : P.underlying e = some (.int .u8)) (hu : P.underlying U = some .string) (hx : ev E x = v) (hr : ∀ B w, Sat B w L → Rds w 1 v m (bv bs)) :
    Ev P E L ⟨d, .convert T U x, t, ps, af, gd⟩ (.string ⟨bs.toArray⟩) := fun B w s => by
  obtain ⟨hl, a, c, rfl, hn, hc⟩ := hr B w s
  have h1 : (convert T U (.slice a m c)).run P w = .ok (.string ⟨bs.toArray⟩) w := by
    rw [run_convert_bytes_string w T U e a m c hs he hu]
    cases a with
    | none =>
      obtain ⟨rfl, _⟩ := hn rfl
      have : bs = [] := by simpa [bv] using hl
      subst this
      rfl
    | some ad =>
      have hlc := loadCells_rds (P := P) (hc ad rfl) (by simpa using hl)
      rw [run_bytesToString w ad m c (bs.map fun b => (b.toNat : Int)) (by rw [hlc]; simp [bv, Function.comp_def]), foldl_push]
      simp [ByteArray.empty, ByteArray.emptyWithCapacity]
      rfl
  simp [execOp, hx, h1]
theorem bytes_toList (bs : List UInt8) : (⟨bs.toArray⟩ : ByteArray).toList = bs := by
  rw [ByteArray.toList_eq]
theorem beq_dec (as bs : List UInt8) : (as == bs) = decide (as = bs) := by
  cases h : (as == bs) <;> simp_all
theorem e_eqs {as bs : List UInt8} (hx : ev E x = .string ⟨as.toArray⟩) (hy : ev E y = .string ⟨bs.toArray⟩) : Ev P E L ⟨d, .binOp .eql T x y U, t, ps, af, gd⟩ (.bool (decide (as = bs))) := fun _ w _ => by
  simp [execOp, hx, hy, guard_str, binOp, Op.stringOp, beq_dec]
theorem e_nes {as bs : List UInt8} (hx : ev E x = .string ⟨as.toArray⟩) (hy : ev E y = .string ⟨bs.toArray⟩) : Ev P E L ⟨d, .binOp .neq T x y U, t, ps, af, gd⟩ (.bool (!decide (as = bs))) := fun _ w _ => by
  simp [execOp, hx, hy, guard_str, binOp, Op.stringOp, beq_dec]

/-! #### slices of slices; make; copy -/
theorem e_sl {b off m c e k lo hi : Nat} {low high : Option Operand} (hu : P.underlying T = some (.slice e)) (hs : ∀ w, (sizeOf e).run P w = .ok k w) (hx : ev E x = .slice (some ⟨b, off, none⟩) m c)
    (hlo : match low with | none => lo = 0 | some o => ∃ q, ev E o = .int q (lo : Int)) (hhi : match high with | none => hi = m | some o => ∃ q, ev E o = .int q (hi : Int)) (h1 : lo ≤ hi) (h2 : hi ≤ c) (h3 : m ≤ c) :
    Ev P E L ⟨d, .slice T x low high none, t, ps, af, gd⟩ (.slice (some (if c = lo then ⟨b, off, none⟩ else ⟨b, off + lo * k, none⟩)) (hi - lo) (c - lo)) := fun _ w _ => by
  have hsl : (Instr.slice T (.slice (some ⟨b, off, none⟩) m c) (low.map (ev E)) (high.map (ev E)) none).run P w = .ok (.slice (some (if c = lo then ⟨b, off, none⟩ else ⟨b, off + lo * k, none⟩)) (hi - lo) (c - lo)) w := by
    have hb : (Instr.sliceBounds true m c (low.map (ev E)) (high.map (ev E)) none).run P w = .ok (lo, hi, c) w := by
      cases low with
      | none =>
        simp only at hlo; subst hlo
        cases high with
        | none => simp only at hhi; subst hhi; simp [Instr.sliceBounds]
        | some o => obtain ⟨q, hq⟩ := hhi; simp [Instr.sliceBounds, Instr.sliceBound, hq, asIntOf, h2]
      | some o2 =>
        obtain ⟨q2, hq2⟩ := hlo
        cases high with
        | none => simp only at hhi; subst hhi; simp [Instr.sliceBounds, Instr.sliceBound, hq2, asIntOf, h1]
        | some o => obtain ⟨q, hq⟩ := hhi; simp [Instr.sliceBounds, Instr.sliceBound, hq, hq2, asIntOf, h2, h1]
    simp only [Instr.slice, Sem.run_bind, run_underlying hu, Result.andThen_ok, hb, hs, Sem.run_pure, Option.map_some, add_lit]
    split <;> rfl
  have hns : ∀ n e, TypeDesc.slice e ≠ .array n e := fun _ _ h => by cases h
  simp only [execOp, Instr.sliceAt, Sem.run_bind, run_underlying hu, Result.andThen_ok, hx, Option.map_none, hsl, Sem.run_pure]
theorem e_sln {e m c : Nat} {low high : Option Operand} (hu : P.underlying T = some (.slice e)) {sz : Nat} (hs : ∀ w, (sizeOf e).run P w = .ok sz w) (hx : ev E x = .slice none m c) (hm : m = 0) (hc : c = 0)
    (hlo : match low with | none => True | some o => ∃ q, ev E o = .int q 0) (hhi : match high with | none => True | some o => ∃ q, ev E o = .int q 0) :
    Ev P E L ⟨d, .slice T x low high none, t, ps, af, gd⟩ (.slice none 0 0) := fun _ w _ => by
  subst hm; subst hc
  have hsl : (Instr.slice T (.slice none 0 0) (low.map (ev E)) (high.map (ev E)) none).run P w = .ok (.slice none 0 0) w := by
    have hb : (Instr.sliceBounds true 0 0 (low.map (ev E)) (high.map (ev E)) none).run P w = .ok (0, 0, 0) w := by
      cases low with
      | none =>
        cases high with
        | none => simp [Instr.sliceBounds]
        | some o => obtain ⟨q, hq⟩ := hhi; simp [Instr.sliceBounds, Instr.sliceBound, hq, asIntOf]
      | some o2 =>
        obtain ⟨q2, hq2⟩ := hlo
        cases high with
        | none => simp [Instr.sliceBounds, Instr.sliceBound, hq2, asIntOf]
        | some o => obtain ⟨q, hq⟩ := hhi; simp [Instr.sliceBounds, Instr.sliceBound, hq, hq2, asIntOf]
    simp only [Instr.slice, Sem.run_bind, run_underlying hu, Result.andThen_ok, hb, hs, Sem.run_pure, Option.map_none]
    rfl
  simp only [execOp, Instr.sliceAt, Sem.run_bind, run_underlying hu, Result.andThen_ok, hx, Option.map_none, hsl, Sem.run_pure]
theorem s_mk {e k bytes m : Nat} {i' : TypeInfo} {z : Value} {kl : IntKind} (ht : P.underlying T = some (.slice e)) (hi : P.info? e = some i') (hz : i'.zero = some z) (hk : i'.size = k) (hby : i'.bytes = bytes) (hx : ev E x = .int kl i) (hm : i = (m : Int)) (hb : bytes * m ≤ 281474976710656) (h63 : (m : Int) ≤ 9223372036854775807) :
    Eff P E L ⟨d, .makeSlice T x x, t, ps, af, gd⟩ (newS e (madeCells z.cells (m * k)).toList m m L) := fun B F w s => by
  subst hk; subst hby; subst hm
  have hr := run_make (P := P) w T e i' z ht hi hz kl kl (m : Int) (m : Int) (by omega) (by omega) (by rw [← Int.natCast_mul]; generalize i'.bytes * m = q at hb; omega) h63
  simp only [execOp, hx, Sem.run_bind, hr, Result.andThen_ok, Sem.run_pure, Upon]
  refine ⟨_, ⟨w.heap.size, by rw [Int.toNat_natCast], rfl⟩, ?_⟩
  simpa [blk] using sat_new s _
theorem s_cp {e b off dl dc m : Nat} {cs : List Value} {xs : List Value} (ht : P.underlying T = some (.slice e)) (hsz : (P.info? e).map (·.size) = some 1) (hx : ev E x = .slice (some ⟨b, off, none⟩) dl dc) (hy : ev E y = u)
    (hr : ∀ B w, Sat B w L → Rds w 1 u m xs) (hml : m ≤ dl) (hfit : off + m ≤ cs.length) (h1 : ∀ v ∈ xs, v.oneCell' = true) (hd : Turn (blk b e cs) (blk b e (cs.take off ++ xs ++ cs.drop (off + m))) L L') :
    Eff P E L ⟨d, .call ⟨.builtin .copy, #[x, y], #[T, T]⟩, t, ps, af, gd⟩ (fun v M => v = .int .i64 (m : Int) ∧ M = L') := fun B F w s => by
  obtain ⟨hl, a, c, rfl, hn, hc⟩ := hr B w s.left
  obtain ⟨M, d1, d2⟩ := hd.split
  have hb := s.read (d1.append (F := F))
  have hl' : xs.length = m := by simpa using hl
  cases a with
  | none =>
    obtain ⟨rfl, rfl⟩ := hn rfl
    have hx0 : xs = [] := List.eq_nil_of_length_eq_zero hl'
    subst hx0
    have hh : cs.take off ++ [] ++ cs.drop (off + 0) = cs := by simp
    rw [hh] at hd
    have hLL : L' = L := by
      clear d1 d2 hb hc hr hfit s
      induction hd with
      | here => rfl
      | there _ ih => rw [ih]
    subst hLL
    have hr0 : (Builtin.copy_ #[T, T] t #[.slice (some ⟨b, off, none⟩) dl dc, .slice none 0 0]).run P w = .ok (.int .i64 0) w := by
      cases hq : P.info? e with
      | none => simp [hq] at hsz
      | some i => simp [Builtin.copy_, run_underlying ht, Builtin.lenOf, Builtin.firstCells, sizeOf, typeInfo, hq, storeCells, goInt]
    simp [execOp, resolve, invoke, builtin, hx, hy, hr0, Upon]
    exact s
  | some ad =>
    have hmin : xs.length = Nat.min m dl := by rw [hl']; exact (Nat.min_eq_left hml).symm
    have hr1 := run_copy_row (P := P) w T T t e b off dl dc ad m c ⟨cs⟩ e xs ht hsz hb hmin (hc ad rfl) (by simpa [hl'] using hfit) h1
    simp only [execOp, resolve, invoke, builtin, Sem.run_bind, Sem.run_pure, Result.andThen_ok, List.map_toArray, List.map_cons, List.map_nil, hx, hy, hr1, Upon, hl']
    exact ⟨_, ⟨rfl, rfl⟩, s.change hd.append rfl rfl rfl (by rw [heap_setRow _ _ _ _ _ hb]) fun c hc => setRow_other w b c _ hc⟩
end Go.Vc

namespace Go.Vc
variable {P : Program} {B : World} {n : Nat} {ops : Array Oper} {K : Kont} {E : Env} {L L' D Ls : List HProp}

/-! ### 6. Regions that draw their order -/
/-- Closed under what binds. -/
def Clsd (ops : Array Oper) (listed : Array Bool) : Prop := ∀ j o, ops[j]? = some o → listed.getD j false = true → ∀ e ∈ o.after, Region.binds .any e = true → listed.getD e.on false = true
/-- The stable part is there till operation 'fin' has come up. -/
def Sst (B : World) (Ls : List HProp) (fin : Option Nat) (listed : Array Bool) (w : World) : Prop := (∃ f, fin = some f ∧ listed.getD f false = true) ∨ ∃ D, Sat B w (D ++ Ls)
def waits (ops : Array Oper) (fin : Option Nat) (i : Nat) : Bool := match fin with
  | none => true
  | some f => match ops[f]? with
    | some o => o.after.any fun e => Region.binds .any e && (e.on == i || match ops[e.on]? with
      | some o' => o'.after.any fun e' => Region.binds .any e' && e'.on == i
      | none => false)
    | none => false
def YieldsAt (P : Program) (ops : Array Oper) (S : Array Bool → World → Prop) (i : Nat) (o : Oper) (v : Value) (a : Act) : Prop :=
  (Region.wanted o (yielded ops a.tmps) = true ∧ ∀ listed w, listed.size = ops.size → Clsd ops listed → listed.getD i true = false → S listed w → (execOp a.eval o).run P w = .ok (.value v) w) ∨
  (Region.wanted o (yielded ops a.tmps) = false ∧ v = undef)
theorem YieldsAt.of_same {S : Array Bool → World → Prop} {i : Nat} {o : Oper} {v : Value} {a a' : Act} (hy : YieldsAt P ops S i o v a) (he : execOp a'.eval o = execOp a.eval o)
    (hw : Region.wanted o (yielded ops a'.tmps) = Region.wanted o (yielded ops a.tmps)) : YieldsAt P ops S i o v a' := by
  unfold YieldsAt at *
  rw [he, hw]
  exact hy
theorem YieldsAt.wpOp {S : Array Bool → World → Prop} {i : Nat} {o : Oper} {v : Value} {a : Act} {Q : Exit → Act → World → Prop} (hi : ops[i]? = some o) (hy : YieldsAt P ops S i o v a) {listed : Array Bool} (hz : listed.size = ops.size) (hc : Clsd ops listed) (hl : listed.getD i true = false)
    {K : Act → World → Prop} {w : World} (hS : S listed w) (h : K (a.put o.dst v) w) : wpOp P ops Q i K a w := by
  unfold Go.wpOp
  simp only [hi]
  rcases hy with ⟨hw, hv⟩ | ⟨hw, rfl⟩
  · simp only [hw, if_true, Oper.wp, hv listed w hz hc hl hS, Oper.upon]; exact .inl h
  · simp only [hw, Bool.false_eq_true, if_false]; exact h
theorem wpOp_putAt {S : Array Bool → World → Prop} {Q : Exit → Act → World → Prop} {i j : Nat} {oi oj : Oper} {v : Value} (hj : ops[j]? = some oj) (hap : oi.apart ops oj = true)
    (hsi : ∀ cs b, oi.op ≠ .select cs b) (hsj : ∀ cs b, oj.op ≠ .select cs b)
    (hQ : ∀ c a w, Q (.panic c) (a.put oi.dst v) w → Q (.panic c) a w) {K : Act → World → Prop} {a : Act} {w : World}
    (hy : YieldsAt P ops S i oi v a) (h : wpOp P ops Q j K (a.put oi.dst v) w) :
    wpOp P ops Q j (fun a' w' => YieldsAt P ops S i oi v a' ∧ K (a'.put oi.dst v) w') a w := by
  obtain ⟨h1, h2, h3⟩ := Oper.apart_spec hap
  have keep : ∀ (a : Act), YieldsAt P ops S i oi v a → ∀ u, YieldsAt P ops S i oi v (a.put oj.dst u) := fun a hy u =>
    hy.of_same (execOp_put oi hsi a oj.dst u h3) (wanted_put oi a oj.dst u h3)
  have keepD : ∀ d, YieldsAt P ops S i oi v { a with defers := d :: a.defers } := fun d => hy.of_same rfl rfl
  unfold wpOp at *
  simp only [hj] at *
  rw [wanted_put oj a oi.dst v h1] at h
  split
  · rename_i hw
    simp only [hw, if_true] at h
    rcases h with h | ⟨hasks, hlets⟩
    case inr => exact .inr ⟨by unfold Oper.asks at *; rw [execOp_put oj hsj a oi.dst v h1] at hasks; exact hasks, hlets⟩
    refine .inl ?_
    unfold Oper.wp at *
    rw [execOp_put oj hsj a oi.dst v h1] at h
    generalize (execOp a.eval oj).run P w = r at *
    cases r with
    | ok n w' =>
      cases n <;> simp only [Oper.upon] at h ⊢
      case value u => exact ⟨keep a hy u, by rw [← Act.put_comm a v u h2]; exact h⟩
      case skip => exact ⟨keep a hy _, by rw [← Act.put_comm a v undef h2]; exact h⟩
      case defer d =>
        refine ⟨keep _ (keepD d) _, ?_⟩
        rw [← Act.put_comm _ v undef h2, ← Act.put_defers]
        exact h
      case enter f args =>
        refine Calls.mono h fun e w'' he => ?_
        cases e with
        | returned u => exact ⟨keep a hy u, by rw [← Act.put_comm a v u h2]; exact he⟩
        | panicked c => exact hQ _ _ _ he
        | outgrown => exact he
      case row row args => exact Rows.mono h fun u w'' he => ⟨keep a hy u, by rw [← Act.put_comm a v u h2]; exact he⟩
    | halt x w' =>
      cases x <;> simp only [Oper.upon] at h ⊢
      case panic u => exact hQ _ _ _ h
  · rename_i hw
    simp only [hw] at h
    exact ⟨keep a hy _, by rw [← Act.put_comm a v undef h2]; exact h⟩
def wpAnyV (P : Program) (ops : Array Oper) (Q : Exit → Act → World → Prop) (S : Array Bool → World → Prop) : Nat → Array Bool → Act → World → Prop
  | 0, listed, a, w => Region.ready .any ops listed = [] ∧ Q .normal a w
  | fuel + 1, listed, a, w =>
    (Region.ready .any ops listed = [] → Q .normal a w) ∧
    ∀ i ∈ Region.ready .any ops listed, wpOp P ops Q i (fun a' w' => S (listed.setIfInBounds i true) w' ∧ wpAnyV P ops Q S fuel (listed.setIfInBounds i true) a' w') a w
theorem wpAny_of_V {Q : Exit → Act → World → Prop} {S : Array Bool → World → Prop} : ∀ (fuel : Nat) (listed : Array Bool) (a : Act) (w : World), wpAnyV P ops Q S fuel listed a w → wpAny P .any ops Q fuel listed a w
  | 0, _, _, _, h => h
  | fuel + 1, _, _, _, h => ⟨h.1, fun i hi => wpOp_mono (fun a' w' h' => wpAny_of_V fuel _ a' w' h'.2) (h.2 i hi)⟩
theorem clsd_set {listed : Array Bool} {i : Nat} (hc : Clsd ops listed) (hr : i ∈ Region.ready .any ops listed) : Clsd ops (listed.setIfInBounds i true) := by
  intro j o hj hl e he hb
  by_cases hji : i = j
  · subst hji
    obtain ⟨_, o', ho', hall⟩ := mem_ready.1 hr
    rw [hj] at ho'; cases ho'
    exact getD_set_true (hall e he hb)
  · rw [getD_set_ne false hji] at hl
    exact getD_set_true (hc j o hj hl e he hb)
theorem wpAnyV_first {Q : Exit → Act → World → Prop} {S : Array Bool → World → Prop} {i : Nat} {oi : Oper} {v : Value} (hi : ops[i]? = some oi) (hsel : ∀ (j : Nat) (o : Oper) cs b, ops[j]? = some o → o.op ≠ .select cs b)
    (hQ : ∀ c a w, Q (.panic c) (a.put oi.dst v) w → Q (.panic c) a w) (hmono : ∀ listed w, S listed w ↔ S (listed.setIfInBounds i true) w) :
    ∀ (fuel : Nat) (listed : Array Bool) (a : Act) (w : World), listed.size = ops.size → Clsd ops listed →
      (∀ j oj, ops[j]? = some oj → j ≠ i → listed.getD j true = false → (∀ e ∈ oj.after, Region.binds .any e = true → e.on ≠ i) → oi.apart ops oj = true) →
      i ∈ Region.ready .any ops listed → YieldsAt P ops S i oi v a → S listed w →
      wpAnyV P ops Q S fuel (listed.setIfInBounds i true) (a.put oi.dst v) w → wpAnyV P ops Q S (fuel + 1) listed a w := by
  intro fuel
  induction fuel with
  | zero =>
    intro listed a w hz hc _ hr hy hS H
    refine ⟨fun h => (by rw [h] at hr; cases hr), fun j hj => ?_⟩
    by_cases hji : j = i
    · subst hji; exact hy.wpOp hi hz hc (mem_ready.1 hr).1 hS ⟨(hmono _ _).1 hS, H⟩
    · have := ready_mono hj hji
      rw [H.1] at this
      cases this
  | succ fuel ih =>
    intro listed a w hz hc hfree hr hy hS H
    refine ⟨fun h => (by rw [h] at hr; cases hr), fun j hj => ?_⟩
    by_cases hji : j = i
    · subst hji; exact hy.wpOp hi hz hc (mem_ready.1 hr).1 hS ⟨(hmono _ _).1 hS, H⟩
    · have h1 := H.2 j (ready_mono hj hji)
      obtain ⟨hjun, oj, hoj, hall⟩ := mem_ready.1 hj
      have hnot : ∀ e ∈ oj.after, Region.binds .any e = true → e.on ≠ i := fun e he hb heq => by
        have h1 := hall e he hb
        have h0 := (mem_ready.1 hr).1
        rw [heq] at h1
        rcases Nat.lt_or_ge i listed.size with h' | h'
        · simp [h'] at h0 h1; rw [h0] at h1; cases h1
        · simp [Array.getElem?_eq_none h'] at h1
      have h2 := wpOp_putAt hoj (hfree j oj hoj hji hjun hnot) (fun cs b => hsel i oi cs b hi) (fun cs b => hsel j oj cs b hoj) hQ hy h1
      have hfree' : ∀ k ok, ops[k]? = some ok → k ≠ i → (listed.setIfInBounds j true).getD k true = false →
          (∀ e ∈ ok.after, Region.binds .any e = true → e.on ≠ i) → oi.apart ops ok = true := fun k ok hk hki hun hno => by
        refine hfree k ok hk hki ?_ hno
        by_cases hjk : j = k
        · subst hjk; exact hjun
        · rw [getD_set_ne true hjk] at hun; exact hun
      refine wpOp_mono (fun a' w' h3 => ?_) h2
      have hS' : S (listed.setIfInBounds j true) w' := (hmono _ _).2 (by rw [Array.setIfInBounds_comm _ _ hji]; exact h3.2.1)
      exact ⟨hS', ih (listed.setIfInBounds j true) a' w' (by simp [hz]) (clsd_set hc hj) hfree' (ready_mono hr (Ne.symm hji)) h3.1 hS' (by rw [Array.setIfInBounds_comm _ _ hji]; exact h3.2.2)⟩
def planB (ops : Array Oper) (fin : Option Nat) : Array Bool → List (Bool × Nat) → Bool
  | listed, [] => (Region.ready .any ops listed).isEmpty
  | listed, (true, i) :: r => Region.free .any ops listed i && (Region.ready .any ops listed).contains i && waits ops fin i && (fin != some i) && planB ops fin (listed.setIfInBounds i true) r
  | listed, (false, i) :: r => (Region.ready .any ops listed == [i]) && planB ops fin (listed.setIfInBounds i true) r
/-- In a region that draws its order: the plan that is left; what may turn (D) and what stays (Ls). -/
def GP (P : Program) (B : World) (n : Nat) (ops : Array Oper) (fin : Option Nat) (plan : List (Bool × Nat)) (K : Kont) (E : Env) (D Ls : List HProp) : Prop :=
  ∀ listed fuel a w, Region.noSelect ops = true → listed.size = ops.size → Clsd ops listed → planB ops fin listed plan = true → plan.length ≤ fuel → RepA a n E → Sat B w (D ++ Ls) → wpAnyV P ops (lift B n K) (Sst B Ls fin) fuel listed a w

theorem gc_draw {id : Nat} {plan : List (Bool × Nat)} {fin : Option Nat} (hm : P.follows .mixedOrders = true) (hs : Region.noSelect ops = true) (hp : planB ops fin (Array.replicate ops.size false) plan = true) (hl : Nat.ble plan.length ops.size = true) (hd : Pick D L Ls)
    (h : GP P B n ops fin plan K E D Ls) : GC P B n (.region id ops true) K E L := fun a w r s =>
  wp_region_any hm (wpAny_of_V _ _ _ _ (h _ _ a _ hs (by simp) (fun j o _ hl => by rw [Array.getD_eq_getD_getElem?, Array.getElem?_replicate] at hl; split at hl <;> cases hl) hp (Nat.le_of_ble_eq_true hl) r ((drewS s).imp fun _ => hd.to)))
theorem gp_nil {fin : Option Nat} (h : K .normal E (D ++ Ls)) : GP P B n ops fin [] K E D Ls := fun listed fuel a w _ _ _ hp _ r s => by
  have hp' : Region.ready .any ops listed = [] := by simpa [planB] using hp
  cases fuel with
  | zero => exact ⟨hp', E, _, r, s, h⟩
  | succ f => exact ⟨fun _ => ⟨E, _, r, s, h⟩, by rw [hp']; simp⟩
section
variable {i : Nat} {rest : List (Bool × Nat)} {o : Oper} {v : Value} {fin : Option Nat}
theorem lift_panic {B : World} {n : Nat} {K : Kont} (d : Option Tmp) (v : Value) : ∀ c a w, lift B n K (.panic c) (Act.put a d v) w → lift B n K (.panic c) a w := fun _ _ _ h => h.elim
theorem sst_iff (h : (fin != some i) = true) (listed : Array Bool) (w : World) : Sst B Ls fin listed w ↔ Sst B Ls fin (listed.setIfInBounds i true) w := by
  unfold Sst
  have : ∀ f, fin = some f → ((listed.setIfInBounds i true).getD f false = listed.getD f false) := fun f hf => getD_set_ne false (by rintro rfl; rw [hf] at h; simp at h)
  constructor
  · rintro (⟨f, h1, h2⟩ | h)
    · exact .inl ⟨f, h1, by rw [this f h1]; exact h2⟩
    · exact .inr h
  · rintro (⟨f, h1, h2⟩ | h)
    · exact .inl ⟨f, h1, by rw [← this f h1]; exact h2⟩
    · exact .inr h
theorem sst_sat {listed : Array Bool} {w : World} (hw : waits ops fin i = true) (hc : Clsd ops listed) (hl : listed.getD i true = false) (h : Sst B Ls fin listed w) : Sat B w Ls := by
  rcases h with ⟨f, rfl, hf⟩ | ⟨D, s⟩
  · simp only [waits] at hw
    cases ho : ops[f]? with
    | none => rw [ho] at hw; cases hw
    | some o =>
      rw [ho] at hw
      obtain ⟨e, he, hb⟩ := Array.any_eq_true'.1 hw
      have hb1 : Region.binds .any e = true ∧ (e.on == i || match ops[e.on]? with
        | some o' => o'.after.any fun e' => Region.binds .any e' && e'.on == i
        | none => false) = true := by simpa only [Bool.and_eq_true] using hb
      have h1 := hc f o ho hf e he hb1.1
      have this : listed.getD i false = true := by
        rcases Bool.or_eq_true _ _ |>.mp hb1.2 with h2 | h2
        · rw [← beq_iff_eq.1 h2]; exact h1
        · cases ho' : ops[e.on]? with
          | none => rw [ho'] at h2; cases h2
          | some o' =>
            rw [ho'] at h2
            obtain ⟨e', he', hb'⟩ := Array.any_eq_true'.1 h2
            have hb2 : Region.binds .any e' = true ∧ (e'.on == i) = true := by simpa only [Bool.and_eq_true] using hb'
            rw [← beq_iff_eq.1 hb2.2]
            exact hc _ o' ho' h1 e' he' hb2.1
      rw [Array.getD_eq_getD_getElem?] at this hl
      cases hh : listed[i]? with
      | none => rw [hh] at this; cases this
      | some b => rw [hh] at this hl; simp at this hl; rw [this] at hl; cases hl
  · exact s.right
theorem gp_ev (hi : ops[i]? = some o) (h : Ev P E Ls o v) (k : GP P B n ops fin rest K (updO E o.dst v) D Ls) (hw : wantedE ops E o = true := by rfl) (hd : dstB n o.dst = true := by rfl) : GP P B n ops fin ((true, i) :: rest) K E D Ls := by
  intro listed fuel a w hns hz hcl hp hf r s
  simp only [planB, Bool.and_eq_true] at hp
  obtain ⟨⟨⟨⟨hp1, hp2⟩, hp3⟩, hp4⟩, hp5⟩ := hp
  obtain ⟨f, rfl⟩ : ∃ f, fuel = f + 1 := ⟨fuel - 1, by simp at hf; omega⟩
  have hr : i ∈ Region.ready .any ops listed := by simpa using hp2
  refine wpAnyV_first hi (Region.noSelect_spec hns) (lift_panic o.dst v) (sst_iff hp4) f listed a w hz hcl (Region.free_spec hi hp1) hr (.inl ⟨?_, fun listed' w' _ hc hl hS => ?_⟩) (.inr ⟨D, s⟩) (k _ f _ w hns (by simp [hz]) (clsd_set hcl hr) hp5 (by simp at hf; omega) (r.put hd v) s)
  · rw [r.yielded]; exact hw
  · rw [r.eval]; exact h B w' (sst_sat hp3 hc hl hS)
theorem gp_not (hi : ops[i]? = some o) (k : GP P B n ops fin rest K (updO E o.dst undef) D Ls) (hw : wantedE ops E o = false := by rfl) (hd : dstB n o.dst = true := by rfl) : GP P B n ops fin ((true, i) :: rest) K E D Ls := by
  intro listed fuel a w hns hz hcl hp hf r s
  simp only [planB, Bool.and_eq_true] at hp
  obtain ⟨⟨⟨⟨hp1, hp2⟩, hp3⟩, hp4⟩, hp5⟩ := hp
  obtain ⟨f, rfl⟩ : ∃ f, fuel = f + 1 := ⟨fuel - 1, by simp at hf; omega⟩
  have hr : i ∈ Region.ready .any ops listed := by simpa using hp2
  refine wpAnyV_first hi (Region.noSelect_spec hns) (lift_panic o.dst undef) (sst_iff hp4) f listed a w hz hcl (Region.free_spec hi hp1) hr (.inr ⟨?_, rfl⟩) (.inr ⟨D, s⟩) (k _ f _ w hns (by simp [hz]) (clsd_set hcl hr) hp5 (by simp at hf; omega) (r.put hd undef) s)
  rw [r.yielded]; exact hw
theorem gp_one {S : Array Bool → World → Prop} {fuel : Nat} {listed : Array Bool} {a : Act} {w : World} (hi : ops[i]? = some o) (hr : Region.ready .any ops listed = [i])
    (h : if Region.wanted o (yielded ops a.tmps) then o.wp P a w (fun a' w' => S (listed.setIfInBounds i true) w' ∧ wpAnyV P ops (lift B n K) S fuel (listed.setIfInBounds i true) a' w') (lift B n K)
      else S (listed.setIfInBounds i true) w ∧ wpAnyV P ops (lift B n K) S fuel (listed.setIfInBounds i true) (a.put o.dst undef) w) : wpAnyV P ops (lift B n K) S (fuel + 1) listed a w := by
  refine ⟨fun h0 => (by rw [hr] at h0; cases h0), fun j hj => ?_⟩
  rw [hr] at hj
  obtain rfl : j = i := by simpa using hj
  unfold wpOp
  simp only [hi]
  split
  · rename_i hw; rw [if_pos hw] at h; exact .inl h
  · rename_i hw; rw [if_neg hw] at h; exact h
theorem gp_eff {R : Value → List HProp → Prop} (hi : ops[i]? = some o) (h : Eff P E D o R) (k : ∀ v D', R v D' → GP P B n ops fin rest K (updO E o.dst v) D' Ls) (hw : wantedE ops E o = true := by rfl) (hd : dstB n o.dst = true := by rfl) : GP P B n ops fin ((false, i) :: rest) K E D Ls := by
  intro listed fuel a w hns hz hcl hp hf r s
  simp only [planB, Bool.and_eq_true, beq_iff_eq] at hp
  obtain ⟨f, rfl⟩ : ∃ f, fuel = f + 1 := ⟨fuel - 1, by simp at hf; omega⟩
  refine gp_one hi hp.1 ?_
  rw [r.yielded, if_pos (show Region.wanted o (yieldedE ops E) = true from hw)]
  unfold Oper.wp
  rw [r.eval]
  refine upon_of (h B Ls w s) fun v w' ⟨D', hR, hs⟩ => ⟨.inr ⟨D', hs⟩, k v D' hR _ f _ w' hns (by simp [hz]) (clsd_set hcl (by rw [hp.1]; simp)) hp.2 (by simp at hf; omega) (r.put hd v) hs⟩
theorem wpAnyV_congr {Q : Exit → Act → World → Prop} {S S' : Array Bool → World → Prop} {q : Nat} (hS : ∀ listed w, listed.getD q false = true → S listed w → S' listed w) : ∀ fuel listed a w, listed.getD q false = true → wpAnyV P ops Q S fuel listed a w → wpAnyV P ops Q S' fuel listed a w
  | 0, _, _, _, _, h => h
  | fuel + 1, _, _, _, hl, h => ⟨h.1, fun i hi => wpOp_mono (fun a' w' h' => ⟨hS _ _ (getD_set_true hl) h'.1, wpAnyV_congr hS fuel _ a' w' (getD_set_true hl) h'.2⟩) (h.2 i hi)⟩
/-- The operation that ends the stable part: from here on all may turn. -/
theorem gp_fin {R : Value → List HProp → Prop} (hi : ops[i]? = some o) (h : Eff P E (D ++ Ls) o R) (k : ∀ v D', R v D' → GP P B n ops (some i) rest K (updO E o.dst v) D' []) (hw : wantedE ops E o = true := by rfl) (hd : dstB n o.dst = true := by rfl) : GP P B n ops (some i) ((false, i) :: rest) K E D Ls := by
  intro listed fuel a w hns hz hcl hp hf r s
  simp only [planB, Bool.and_eq_true, beq_iff_eq] at hp
  obtain ⟨f, rfl⟩ : ∃ f, fuel = f + 1 := ⟨fuel - 1, by simp at hf; omega⟩
  refine gp_one hi hp.1 ?_
  rw [r.yielded, if_pos (show Region.wanted o (yieldedE ops E) = true from hw)]
  unfold Oper.wp
  rw [r.eval]
  have hlt : i < listed.size := by rw [hz]; exact (Array.getElem?_eq_some_iff.1 hi).1
  have hl : (listed.setIfInBounds i true).getD i false = true := by simp [Array.getD_eq_getD_getElem?, hlt]
  refine upon_of (h B [] w (by simpa using s)) fun v w' ⟨D', hR, hs⟩ => ⟨.inl ⟨i, rfl, hl⟩, ?_⟩
  exact wpAnyV_congr (q := i) (fun listed w hl' _ => .inl ⟨i, rfl, hl'⟩) _ _ _ _ hl (k v D' hR _ f _ w' hns (by simp [hz]) (clsd_set hcl (by rw [hp.1]; simp)) hp.2 (by simp at hf; omega) (r.put hd v) (by simpa using hs))
theorem gp_evf (hi : ops[i]? = some o) (h : Ev P E (D ++ Ls) o v) (k : GP P B n ops fin rest K (updO E o.dst v) D Ls) (hw : wantedE ops E o = true := by rfl) (hd : dstB n o.dst = true := by rfl) : GP P B n ops fin ((false, i) :: rest) K E D Ls := by
  intro listed fuel a w hns hz hcl hp hf r s
  simp only [planB, Bool.and_eq_true, beq_iff_eq] at hp
  obtain ⟨f, rfl⟩ : ∃ f, fuel = f + 1 := ⟨fuel - 1, by simp at hf; omega⟩
  refine gp_one hi hp.1 ?_
  rw [r.yielded, if_pos (show Region.wanted o (yieldedE ops E) = true from hw)]
  unfold Oper.wp
  rw [r.eval, h B w s]
  exact ⟨.inr ⟨D, s⟩, k _ f _ w hns (by simp [hz]) (clsd_set hcl (by rw [hp.1]; simp)) hp.2 (by simp at hf; omega) (r.put hd v) s⟩
theorem gp_notf (hi : ops[i]? = some o) (k : GP P B n ops fin rest K (updO E o.dst undef) D Ls) (hw : wantedE ops E o = false := by rfl) (hd : dstB n o.dst = true := by rfl) : GP P B n ops fin ((false, i) :: rest) K E D Ls := by
  intro listed fuel a w hns hz hcl hp hf r s
  simp only [planB, Bool.and_eq_true, beq_iff_eq] at hp
  obtain ⟨f, rfl⟩ : ∃ f, fuel = f + 1 := ⟨fuel - 1, by simp at hf; omega⟩
  refine gp_one hi hp.1 ?_
  rw [r.yielded, if_neg (show ¬ Region.wanted o (yieldedE ops E) = true by rw [show Region.wanted o (yieldedE ops E) = false from hw]; simp)]
  exact ⟨.inr ⟨D, s⟩, k _ f _ w hns (by simp [hz]) (clsd_set hcl (by rw [hp.1]; simp)) hp.2 (by simp at hf; omega) (r.put hd undef) s⟩
theorem gp_slot (d : Nat) (v : Value) (h : GP P B n ops fin rest K (upd E d v) D Ls) (hd : E d = v) : GP P B n ops fin rest K E D Ls := by
  rw [upd_id hd] at h; exact h
theorem gp_bool (d : Nat) {b : Bool} (hd : E d = .bool b) (ht : b = true → GP P B n ops fin rest K (upd E d (.bool true)) D Ls) (hf : b = false → GP P B n ops fin rest K (upd E d (.bool false)) D Ls) : GP P B n ops fin rest K E D Ls := by
  cases b with
  | true => exact gp_slot d _ (ht rfl) hd
  | false => exact gp_slot d _ (hf rfl) hd
theorem gp_dec (d : Nat) {p : Prop} {hp : Decidable p} (hd : E d = .bool (decide p)) (ht : p → GP P B n ops fin rest K (upd E d (.bool true)) D Ls) (hf : ¬ p → GP P B n ops fin rest K (upd E d (.bool false)) D Ls) : GP P B n ops fin rest K E D Ls :=
  gp_bool d hd (fun h => ht (of_decide_eq_true h)) (fun h => hf (of_decide_eq_false h))
theorem gp_ndec (d : Nat) {p : Prop} {hp : Decidable p} (hd : E d = .bool (!decide p)) (ht : ¬ p → GP P B n ops fin rest K (upd E d (.bool true)) D Ls) (hf : p → GP P B n ops fin rest K (upd E d (.bool false)) D Ls) : GP P B n ops fin rest K E D Ls :=
  gp_bool d hd (fun h => ht (by simpa using h)) (fun h => hf (by simpa using h))
theorem gp_imp {D' : List HProp} (h : ∀ w, Sat B w (D ++ Ls) → Sat B w (D' ++ Ls)) (k : GP P B n ops fin rest K E D' Ls) : GP P B n ops fin rest K E D Ls := fun listed fuel a w h1 h2 h3 h4 h5 r s => k listed fuel a w h1 h2 h3 h4 h5 r (h w s)
end
end Go.Vc

namespace Go.Vc
variable {P : Program} {B : World} {n : Nat} {ops : Array Oper} {K : Kont} {E : Env} {L L' : List HProp}
variable {d : Option Tmp} {t T U : TypeId} {ps : String} {af : Array Edge} {gd : Option (Nat × Bool)} {x y : Operand} {v u : Value} {k : IntKind} {i j : Int}

/-! ### 7. More -/
def isR (v0 : Value) (L0 : List HProp) (v : Value) (M : List HProp) : Prop := v = v0 ∧ M = L0
theorem tri_calls {f : FuncId} {args : Array Value} {R : Value → List HProp → Prop} {w : World} (h : Tri P f args L R) (hc : ∀ as w, (callFunc f as).run P w = .ok (.enter f as) w) (s : Sat B w L) : Calls P f args w fun e w' => ∃ v L', e = .returned v ∧ R v L' ∧ Sat B w' L' := by
  have := h B [] w (by simpa using s)
  unfold Call at this
  rw [hc] at this
  exact Calls.mono this fun e w' ⟨v, he, L', hR, hs⟩ => ⟨v, L', he, hR, by simpa using hs⟩
theorem gc_fact {c : Code} {φ : Prop} (h : ∀ w, Sat B w L → φ) (k : φ → GC P B n c K E L) : GC P B n c K E L := fun a w r s => k (h w s) a w r s
theorem g_fact {l : List Oper} {φ : Prop} (h : ∀ w, Sat B w L → φ) (k : φ → G P B n ops l K E L) : G P B n ops l K E L := fun a w r s => k (h w s) a w r s
theorem gc_imp {c : Code} (h : ∀ w, Sat B w L → Sat B w L') (k : GC P B n c K E L') : GC P B n c K E L := fun a w r s => k a w r (h w s)
theorem g_imp {l : List Oper} (h : ∀ w, Sat B w L → Sat B w L') (k : G P B n ops l K E L') : G P B n ops l K E L := fun a w r s => k a w r (h w s)
theorem g_pick {l : List Oper} {L1 F : List HProp} (h : Pick L1 L F) (k : G P B n ops l K E (L1 ++ F)) : G P B n ops l K E L := fun a w r s => k a w r (s.imp fun _ => h.to)
theorem gc_pick {c : Code} {L1 F : List HProp} (h : Pick L1 L F) (k : GC P B n c K E (L1 ++ F)) : GC P B n c K E L := fun a w r s => k a w r (s.imp fun _ => h.to)
theorem bv_one (bs : List UInt8) : ∀ u ∈ bv bs, u.oneCell' = true := by
  intro u hu; obtain ⟨b, _, rfl⟩ := List.mem_map.1 hu; rfl
theorem bv_append (as bs : List UInt8) : bv (as ++ bs) = bv as ++ bv bs := by simp [bv]
theorem bv_len (as : List UInt8) : (bv as).length = as.length := by simp [bv]

theorem sepL_one {A : HProp} {f : Nat → Option Obj} (h : sepL [A] f) : A f := by
  obtain ⟨g, h', hA, hn, _, he⟩ := h
  have : f = g := funext fun b => by rw [he b, hn b]; simp
  rw [this]; exact hA
theorem Rds.nil_ {w : World} {m c : Nat} {a : Option Addr} {k : Nat} {xs : List Value} (h : Rds w k (.slice a m c) m xs) : a = none → m = 0 ∧ xs = [] := fun ha => by
  obtain ⟨h1, a', c', h2, h3, _⟩ := h
  cases h2
  obtain ⟨h4, h5⟩ := h3 ha
  subst h4; subst h5
  exact ⟨rfl, List.eq_nil_of_length_eq_zero (by simpa using h1)⟩
theorem nil_fold {e k : Nat} : ∀ f, sepL [] f → sown e k (.slice none 0 0) 0 [] f := fun _ h => ⟨by simp, .inl ⟨rfl, rfl, h⟩⟩
theorem empty_fold {e k b : Nat} : ∀ f, sepL [blk b e []] f → sown e k (.slice (some ⟨b, 0, none⟩) 0 0) 0 [] f := fun _ h => ⟨by simp, .inr ⟨b, 0, [], rfl, Nat.le_refl _, Nat.zero_le _, by simp, sepL_one h⟩⟩
theorem one_sepL {A : HProp} {f : Nat → Option Obj} (h : A f) : sepL [A] f := ⟨f, fun _ => none, h, fun _ => rfl, fun _ => .inr rfl, fun b => by simp⟩
theorem own_fold {e k m b cap : Nat} {xs rest : List Value} (hv : v = .slice (some ⟨b, 0, none⟩) m cap) (hl : xs.length = m * k) (h2 : m ≤ cap) (h3 : cap ≤ maxLen) (h4 : xs.length + rest.length = cap * k) : ∀ f, sepL [blk b e (xs ++ rest)] f → sown e k v m xs f :=
  fun _ h => ⟨hl, .inr ⟨b, cap, rest, hv, h2, h3, h4, sepL_one h⟩⟩
theorem own_unfold {e k m : Nat} {xs : List Value} (hm : 0 < m) {f : Nat → Option Obj} (h : sown e k v m xs f) : ∃ x : Nat × Nat × List Value, sepL [pr (v = .slice (some ⟨x.1, 0, none⟩) m x.2.1 ∧ m ≤ x.2.1 ∧ x.2.1 ≤ maxLen ∧ xs.length = m * k ∧ xs.length + x.2.2.length = x.2.1 * k), blk x.1 e (xs ++ x.2.2)] f := by
  obtain ⟨hl, ⟨_, h0, _⟩ | ⟨b, cap, rest, h1, h2, h3, h4, hb⟩⟩ := h
  · omega
  · exact ⟨(b, cap, rest), fun _ => none, f, ⟨⟨h1, h2, h3, hl, h4⟩, fun _ => rfl⟩, one_sepL hb, fun _ => .inl rfl, fun b => by simp⟩
theorem gc_own {c : Code} {e k m : Nat} {xs : List Value} (hm : 0 < m) (hd : Del (sown e k v m xs) L L')
    (h : ∀ b cap rest, v = .slice (some ⟨b, 0, none⟩) m cap → m ≤ cap → cap ≤ maxLen → xs.length = m * k → xs.length + rest.length = cap * k → GC P B n c K E (blk b e (xs ++ rest) :: L')) : GC P B n c K E L := by
  refine gc_open (fun x : Nat × Nat × List Value => _) hd (fun f hf => own_unfold hm hf) fun x => ?_
  exact gc_pr .here fun ⟨h1, h2, h3, h4, h5⟩ => h _ _ _ h1 h2 h3 h4 h5
theorem g_own {l : List Oper} {e k m : Nat} {xs : List Value} (hm : 0 < m) (hd : Del (sown e k v m xs) L L')
    (h : ∀ b cap rest, v = .slice (some ⟨b, 0, none⟩) m cap → m ≤ cap → cap ≤ maxLen → xs.length = m * k → xs.length + rest.length = cap * k → G P B n ops l K E (blk b e (xs ++ rest) :: L')) : G P B n ops l K E L := by
  refine g_open (fun x : Nat × Nat × List Value => _) hd (fun f hf => own_unfold hm hf) fun x => ?_
  exact g_pr .here fun ⟨h1, h2, h3, h4, h5⟩ => h _ _ _ h1 h2 h3 h4 h5
theorem own_unfold' {e k m : Nat} {xs : List Value} (hm : isNil v = false) {f : Nat → Option Obj} (h : sown e k v m xs f) : ∃ x : Nat × Nat × List Value, sepL [pr (v = .slice (some ⟨x.1, 0, none⟩) m x.2.1 ∧ m ≤ x.2.1 ∧ x.2.1 ≤ maxLen ∧ xs.length = m * k ∧ xs.length + x.2.2.length = x.2.1 * k), blk x.1 e (xs ++ x.2.2)] f := by
  obtain ⟨hl, ⟨h0, _⟩ | ⟨b, cap, rest, h1, h2, h3, h4, hb⟩⟩ := h
  · subst h0; cases hm
  · exact ⟨(b, cap, rest), fun _ => none, f, ⟨⟨h1, h2, h3, hl, h4⟩, fun _ => rfl⟩, one_sepL hb, fun _ => .inl rfl, fun b => by simp⟩
theorem g_own' {l : List Oper} {e k m : Nat} {xs : List Value} (hm : isNil v = false) (hd : Del (sown e k v m xs) L L')
    (h : ∀ b cap rest, v = .slice (some ⟨b, 0, none⟩) m cap → m ≤ cap → cap ≤ maxLen → xs.length = m * k → xs.length + rest.length = cap * k → G P B n ops l K E (blk b e (xs ++ rest) :: L')) : G P B n ops l K E L := by
  refine g_open (fun x : Nat × Nat × List Value => _) hd (fun f hf => own_unfold' hm hf) fun x => ?_
  exact g_pr .here fun ⟨h1, h2, h3, h4, h5⟩ => h _ _ _ h1 h2 h3 h4 h5
theorem slR_own {e b m : Nat} {cs : List Value} (hm : m ≤ maxLen) (hl : cs.length = m) : ∀ f, sepL [blk b e cs] f → sown e 1 (.slice (some ⟨b, 0, none⟩) m m) m cs f :=
  fun _ h => ⟨by omega, .inr ⟨b, m, [], rfl, Nat.le_refl _, hm, by simp; omega, by rw [List.append_nil]; exact sepL_one h⟩⟩

theorem Sat.rdsb {w : World} {b e m c : Nat} {xs rest : List Value} (s : Sat B w L) (hd : Del (blk b e (xs ++ rest)) L L') (hl : xs.length = m) : Rds w 1 (.slice (some ⟨b, 0, none⟩) m c) m xs := by
  refine ⟨by omega, _, _, rfl, (fun h => by cases h), fun ad had j u hj => ?_⟩
  cases had
  rw [add_lit, cell_blk (s.read hd), Nat.zero_add, List.getElem?_append_left (List.getElem?_eq_some_iff.1 hj).1]
  exact hj
theorem Sat.rdsb0 {w : World} {b e m c : Nat} {xs : List Value} (s : Sat B w L) (hd : Del (blk b e xs) L L') (hl : xs.length = m) : Rds w 1 (.slice (some ⟨b, 0, none⟩) m c) m xs := by
  refine ⟨by omega, _, _, rfl, (fun h => by cases h), fun ad had j u hj => ?_⟩
  cases had
  rw [add_lit, cell_blk (s.read hd), Nat.zero_add]
  exact hj
/-- A load whose cell is told by what is owned, in whatever way. -/
theorem e_ldc {D : TypeDesc} {a : Addr} (hu : P.underlying T = some D) (hx : ev E x = .pointer (some a)) (hc : ∀ B w, Sat B w L → w.cell? a = some v) (hD : aggD D = false := by rfl) : Ev P E L ⟨d, .load T x, t, ps, af, gd⟩ v := fun B w s => by
  have hi := run_isAgg hu w
  rw [hD] at hi
  simp [execOp, Instr.loadAt, hx, Instr.sureAddr, loadVar, hi, hc B w s]
theorem Del.mid {A : HProp} {X L L' : List HProp} (h : Del A L L') : Del A (X ++ L) (X ++ L') := by
  induction X with
  | nil => exact h
  | cons _ _ ih => exact .there ih
theorem Turn.mid {A A' : HProp} {X L L' : List HProp} (h : Turn A A' L L') : Turn A A' (X ++ L) (X ++ L') := by
  induction X with
  | nil => exact h
  | cons _ _ ih => exact .there ih
theorem e_sl0 {b off m c e k hi : Nat} {h : Operand} {q : IntKind} (hu : P.underlying T = some (.slice e)) (hs : ∀ w, (sizeOf e).run P w = .ok k w) (hx : ev E x = .slice (some ⟨b, off, none⟩) m c) (hh : ev E h = .int q (hi : Int)) (h2 : hi ≤ c) (h3 : m ≤ c) :
    Ev P E L ⟨d, .slice T x none (some h) none, t, ps, af, gd⟩ (.slice (some ⟨b, off, none⟩) hi c) := by
  have := e_sl (P := P) (E := E) (L := L) (d := d) (t := t) (ps := ps) (af := af) (gd := gd) (low := none) (high := some h) (lo := 0) hu hs hx rfl ⟨q, hh⟩ (Nat.zero_le _) h2 h3
  simpa using this

/-! #### a family of parts -/
theorem turn_fam (f : Nat → HProp) (A : HProp) (i : Nat) : ∀ (m s : Nat), s ≤ i → i < s + m → Turn (f i) A ((List.range' s m).map f) ((List.range' s m).map fun j => if j = i then A else f j) := by
  intro m
  induction m with
  | zero => intro s h1 h2; omega
  | succ m ih =>
    intro s h1 h2
    simp only [List.range'_succ, List.map_cons]
    by_cases e : s = i
    · subst e
      have : (List.range' (s + 1) m).map (fun j => if j = s then A else f j) = (List.range' (s + 1) m).map f := by
        apply List.map_congr_left
        intro j hj
        have := (List.mem_range'_1.1 hj).1
        rw [if_neg (by omega)]
      rw [this, if_pos rfl]
      exact .here
    · rw [if_neg e]
      exact .there (ih (s + 1) (by omega) (by omega))

def fam (N : Nat) (f : Nat → HProp) : List HProp := (List.range' 0 N).map f
theorem del_range (f : Nat → HProp) (i : Nat) : ∀ (m s : Nat), s ≤ i → i < s + m → ∃ M, Del (f i) ((List.range' s m).map f) M ∧ ∀ g : Nat → HProp, (∀ j, j ≠ i → g j = f j) → Del (g i) ((List.range' s m).map g) M := by
  intro m
  induction m with
  | zero => intro s h1 h2; omega
  | succ m ih =>
    intro s h1 h2
    by_cases e : s = i
    · subst e
      refine ⟨_, .here, fun g hg => ?_⟩
      have : (List.range' (s + 1) m).map g = (List.range' (s + 1) m).map f := by
        apply List.map_congr_left
        intro j hj
        have := (List.mem_range'_1.1 hj).1
        exact hg j (by omega)
      simp only [List.range'_succ, List.map_cons, this]
      exact .here
    · obtain ⟨M, h3, h4⟩ := ih (s + 1) (by omega) (by omega)
      refine ⟨f s :: M, ?_, fun g hg => ?_⟩
      · simp only [List.range'_succ, List.map_cons]; exact .there h3
      · simp only [List.range'_succ, List.map_cons, hg s e]; exact .there (h4 g hg)
theorem del_fam {N : Nat} (f : Nat → HProp) {i : Nat} (hi : i < N) : ∃ M, Del (f i) (fam N f) M ∧ ∀ g : Nat → HProp, (∀ j, j ≠ i → g j = f j) → Del (g i) (fam N g) M := del_range f i N 0 (Nat.zero_le _) (by omega)
theorem fam_mono {f g : Nat → HProp} {F : List HProp} : ∀ (m s : Nat), (∀ j, s ≤ j → j < s + m → ∀ h, f j h → g j h) → ∀ {h}, sepL ((List.range' s m).map f ++ F) h → sepL ((List.range' s m).map g ++ F) h := by
  intro m
  induction m with
  | zero => exact fun _ _ _ h => h
  | succ m ih => intro s hfg h hs; exact sepL_mono (hfg s (Nat.le_refl _) (by omega)) (fun _ => ih (s + 1) (fun j h1 h2 => hfg j (by omega) (by omega))) hs
theorem map_set_range {α : Type} (f : Nat → α) (N i : Nat) (v : α) : ((List.range N).map f).set i v = (List.range N).map fun j => if j = i then v else f j := by
  apply List.ext_getElem?
  intro j
  by_cases h : j < N
  · by_cases e : i = j
    · subst e; simp [h]
    · simp [h, e, Ne.symm e]
  · simp [h]

/-! #### what a cell's atomic functions do -/
theorem setCell_blk {w : World} {b off : Nat} {T : TypeId} {cs : List Value} {u : Value} (hb : w.heap[b]? = some (.cells ⟨cs⟩ T (0, 0))) : (w.setCell ⟨b, off, none⟩ u).heap[b]? = some (.cells ⟨cs.set off u⟩ T (0, 0)) := by
  rw [heap_setCell_same w b off ⟨cs⟩ T u hb]; simp
section
variable {f : FuncId} {fn : Func} (hf : P.funcs[f]? = some fn) (hname : (fn.name == "runtime.NumGoroutine") = false) (hb : fn.body.isNone = true) (hn : Extern.findNext fn = none)
include hf hname hb hn
theorem t_aload (k : IntKind) (he : Extern.find fn = some (Extern.Atomic.loadT (.int k))) {b off : Nat} {cs : List Value} {a : Int} (hc : cs[off]? = some (.int k a)) :
    Tri P f #[.pointer (some ⟨b, off, none⟩)] [blk b T cs] (isR (.int k a) [blk b T cs]) := fun B F w s => by
  unfold Call
  rw [run_call_load hf hname hb hn k he (x := a) (by rw [cell_blk (s.read (L' := F) .here)]; exact hc)]
  exact ⟨_, ⟨rfl, rfl⟩, s⟩
theorem t_astore (he : Extern.find fn = some Extern.Atomic.storeT) {b off : Nat} {cs : List Value} {k : IntKind} {a : Int} {u : Value} (hc : cs[off]? = some u) :
    Tri P f #[.pointer (some ⟨b, off, none⟩), .int k a] [blk b T cs] (isR (.tuple #[]) [blk b T (cs.set off (.int k a))]) := fun B F w s => by
  have hbk := s.read (L' := F) .here
  unfold Call
  rw [run_call_store hf hname hb hn he (u := u) (by rw [cell_blk hbk]; exact hc) (frozen_of_row w b off _ _ hbk)]
  exact ⟨_, ⟨rfl, rfl⟩, s.change .here rfl rfl rfl (setCell_blk hbk) fun c hc => heap_setCell_other w _ c _ hc⟩
end

theorem s_ap0 {e k bytes b c : Nat} {i : TypeInfo} {z : Value} {news : List Value} (ht : P.underlying T = some (.slice e)) (hi : P.info? e = some i) (hz : i.zero = some z) (hk : i.size = k) (hby : i.bytes = bytes) (hzs : z.cells.size = k) (hk0 : 0 < k)
    (hx : ev E x = .slice (some ⟨b, 0, none⟩) 0 0) (hy : ev E y = u) (hd : Del (blk b e []) L L') (hr : ∀ B w, Sat B w L → Rds w k u c news) (h1 : ∀ u ∈ news, u.oneCell' = true) (hb : c * bytes ≤ 140737488355328) (hm : c ≤ maxLen) :
    Eff P E L ⟨d, .call ⟨.builtin .append, #[x, y], #[T, T]⟩, t, ps, af, gd⟩ (fun v M => ∃ a' c', v = .slice a' c c' ∧ M = sown e k (.slice a' c c') c news :: L' ∧ a'.isNone = false) := fun B F w s => by
  have hs2 : ∀ {B w F}, Sat B w (L ++ F) → Sat B w (sown e k (.slice (some ⟨b, 0, none⟩) 0 0) 0 [] :: L' ++ F) := fun h => (h.front hd.append).imp fun _ => sepL_mono (fun f h => empty_fold f (one_sepL h)) fun _ h => h
  have h2 := s_ap (P := P) (E := E) (L := sown e k (.slice (some ⟨b, 0, none⟩) 0 0) 0 [] :: L') (L' := L') (m := 0) (xs := []) (d := d) (t := t) (ps := ps) (af := af) (gd := gd) ht hi hz hk hby hzs hk0 hx hy .here (u := u) (c := c) (news := news)
    (fun B w h => hr B w (Sat.back (A := blk b e []) ((h.imp fun _ => sepL_mono (A' := blk b e []) (fun f h => by
      obtain ⟨_, ⟨h, _⟩ | ⟨b', cap, rest, h, _, _, h4, h5⟩⟩ := h
      · cases h
      · cases h; have : rest = [] := List.eq_nil_of_length_eq_zero (by simpa using h4)
        subst this; exact h5) fun _ h => h)) hd)) h1 (by simpa using hb) (by simpa using hm) B F w (hs2 s)
  simpa [apR, isNil] using h2

/-! #### append, the block told -/
def apbR (e b m c cap : Nat) (xs rest news : List Value) (L' : List HProp) (v' : Value) (M : List HProp) : Prop :=
  ∃ b' cap' rest' OLD, v' = .slice (some ⟨b', 0, none⟩) (m + c) cap' ∧ m + c + rest'.length = cap' ∧ cap' ≤ maxLen ∧ M = blk b' e (xs ++ news ++ rest') :: (OLD ++ L') ∧ (OLD = [] ∧ b' = b ∧ cap' = cap ∨ OLD = [blk b e (xs ++ rest)])
theorem s_apb {e bytes m c b cap : Nat} {i : TypeInfo} {z : Value} {xs rest news : List Value} (ht : P.underlying T = some (.slice e)) (hi : P.info? e = some i) (hz : i.zero = some z) (hk : i.size = 1) (hby : i.bytes = bytes) (hzs : z.cells.size = 1)
    (hx : ev E x = .slice (some ⟨b, 0, none⟩) m cap) (hy : ev E y = u) (hd : Del (blk b e (xs ++ rest)) L L') (hxl : xs.length = m) (hrl : m + rest.length = cap) (hcap : cap ≤ maxLen) (hr : ∀ B w, Sat B w L → Rds w 1 u c news) (hnn : isNil u = false) (h1 : ∀ u ∈ news, u.oneCell' = true) (hb : (m + c) * bytes ≤ 140737488355328) (hm : m + c ≤ maxLen) :
    Eff P E L ⟨d, .call ⟨.builtin .append, #[x, y], #[T, T]⟩, t, ps, af, gd⟩ (apbR e b m c cap xs rest news L') := fun B F w s => by
  obtain ⟨hnl, ad, cc, rfl, hnil, hcell⟩ := hr B w s.left
  cases ad with
  | none => cases hnn
  | some ad =>
  have hnews := hcell ad rfl
  subst hby
  have hnl' : news.length = c := by simpa using hnl
  have s' := s.front hd.append
  have hbk := s'.read (L' := L' ++ F) .here
  have hsmall : m + c ≤ 9223372036854775807 := by simp only [maxLen] at hm; omega
  by_cases hroom : m + c ≤ cap
  · have hfit : m * i.size + news.length ≤ (⟨xs ++ rest⟩ : Array Value).size := by simp only [List.size_toArray, List.length_append, hk]; omega
    have hr := run_append_room (P := P) w T t e i ht hi b m cap ⟨xs ++ rest⟩ hbk ad c cc news (by rw [hk]; exact hnl) hnews h1 hroom hfit
    simp only [execOp, resolve, invoke, builtin, Sem.run_bind, Sem.run_pure, Result.andThen_ok, List.map_toArray, List.map_cons, List.map_nil, hx, hy, hr, Upon]
    refine ⟨_, ⟨b, cap, rest.drop news.length, [], rfl, by rw [List.length_drop]; omega, hcap, rfl, .inl ⟨rfl, rfl, rfl⟩⟩, ?_⟩
    have hcs : (List.take (m * i.size) (⟨xs ++ rest⟩ : Array Value).toList ++ news ++ List.drop (m * i.size + news.length) (⟨xs ++ rest⟩ : Array Value).toList) = xs ++ news ++ rest.drop news.length := by
      simp only [List.take_append, List.drop_append, hk, Nat.mul_one, ← hxl, List.take_length, Nat.sub_self, List.take_zero, List.append_nil]
      rw [List.drop_eq_nil_of_le (by omega)]; simp
    rw [hcs]
    exact s'.change .here rfl rfl rfl (setRow_heap w b _ _ e _ hbk) fun c hc => setRow_other w b c _ hc
  · have holds : ∀ j u, xs[j]? = some u → w.cell? ((⟨b, 0, none⟩ : Addr).add j) = some u := fun j u hj => by
      rw [add_lit, cell_blk hbk, Nat.zero_add, List.getElem?_append_left (List.getElem?_eq_some_iff.1 hj).1]; exact hj
    have hr := run_append_grow (P := P) w T t e i z ht hi hz ⟨b, 0, none⟩ m cap xs (by rw [hk]; omega) holds ad c cc news (by rw [hk]; exact hnl) hnews (by omega) (by omega) (growslice_fits (by omega) hb)
    simp only [execOp, resolve, invoke, builtin, Sem.run_bind, Sem.run_pure, Result.andThen_ok, List.map_toArray, List.map_cons, List.map_nil, hx, hy, hr, Upon]
    have hge := grownCap_ge w (m + c) cap e
    have sn := (drewS s').new (o := .cells (xs.toArray ++ news.toArray ++ Builtin.zeroCells z.cells (grownCap w (m + c) cap e - (m + c))) e) (w' := w.drew.alloc _) rfl rfl rfl (heap_alloc_new w.drew _) fun q hq => RowKit.Below.heap_alloc _ _ _ hq
    refine ⟨_, ⟨_, _, (Builtin.zeroCells z.cells (grownCap w (m + c) cap e - (m + c))).toList, [blk b e (xs ++ rest)], rfl, by rw [zlen, hzs, Nat.mul_one]; omega, grownCap_le_maxLen w _ cap e hm, rfl, .inr rfl⟩, sn.imp fun _ h => ?_⟩
    have : (⟨xs ++ news ++ (Builtin.zeroCells z.cells (grownCap w (m + c) cap e - (m + c))).toList⟩ : Array Value) = xs.toArray ++ news.toArray ++ Builtin.zeroCells z.cells (grownCap w (m + c) cap e - (m + c)) := by simp
    unfold blk; rw [this]; exact h
end Go.Vc

namespace Go.Vc
open Go.ChangeShapes Go.RowKit Go.WideShapes

theorem cell_lt {w : World} {a : Addr} {v : Value} (h : w.cell? a = some v) : a.block < w.heap.size := by
  unfold World.cell? at h
  split at h
  · rename_i he
    exact (Array.getElem?_eq_some_iff.1 he).1
  · cases h

theorem Sat.cellOld {B w W : World} {L L' : List HProp} {a : Addr} {v : Value} (s : Sat B w L) (d : Del (old W) L L') (h : W.cell? a = some v) : w.cell? a = some v := by
  have := s.readOld d (cell_lt h)
  unfold World.cell? at h ⊢
  rw [this]
  exact h

def byteOf (n : Int) : UInt8 := UInt8.ofNat n.toNat
theorem byteOf_nat {n : Int} (h : (Lit.int .u8 n).wf = true) : ((byteOf n).toNat : Int) = n := by
  have h' : 0 ≤ n ∧ n ≤ 255 := by
    simpa [Lit.wf, IntKind.has, IntKind.min, IntKind.max, IntKind.bits, IntKind.signed] using h
  unfold byteOf
  rw [UInt8.toNat_ofNat']
  omega

section
variable {H : Type} {enc : TypeId × Value → H} {P : Program} {W : World}
/-- A slice of bytes among the arguments: what is read at any world over the old one. -/
theorem open_byt {t e : TypeId} {v : Value} {d : DataW H} {ps : List MemPlace} (ht : P.underlying t = some (.slice e)) (he : P.underlying e = some (.int .u8)) (hc : P.cellsOf e = 1) (hb : P.bytesOf e = 1)
    {rr : Reach} {b0 : Nat} (hval : Value.okWide P W rr b0 t v) (h : DataW.Trod enc P W 0 (fun _ => true) true t v d ps) :
    ∃ (a : Option Addr) (c : Nat) (bs : List UInt8), v = .slice a bs.length c ∧ (∀ B w, Sat B w [old W] → Rds w 1 (.slice a bs.length c) bs.length (bv bs)) ∧
      (∀ (ts : List TypeId) (ds : List (DataW H)) (j : Nat), (DataW.weightsEach P ts ds).all (· ≤ reachBytes) = true → ts[j]? = some t → ds[j]? = some d → bs.length ≤ 140737488351232) := by
  obtain ⟨a0, l0, c0, rfl⟩ := okWide_slice ht hval
  obtain ⟨fuel, hf⟩ := h
  rcases open_ints ht he hc hf with ⟨hcs, hx⟩ | ⟨a, len, cap, zs, hcs, _, hle, hmax, hlen, hx, hcell, hwf⟩
  · have hv : Value.slice a0 l0 c0 = .slice none 0 0 := by simpa [Value.cells] using hcs
    refine ⟨none, 0, [], hv, fun B w _ => ⟨rfl, none, 0, rfl, fun _ => ⟨rfl, rfl⟩, fun _ h => by cases h⟩, fun _ _ _ _ _ _ => Nat.zero_le _⟩
  · have hv : Value.slice a0 l0 c0 = .slice (some a) len cap := by simpa [Value.cells] using hcs
    rw [if_pos rfl] at hlen
    have hl : ((zs.take len).map byteOf).length = len := by simp; omega
    refine ⟨some a, cap, (zs.take len).map byteOf, by rw [hl, hv], fun B w s => ⟨by simp [bv], some a, cap, rfl, (fun h => by cases h), fun ad had j u hu => ?_⟩, fun ts ds j hs h1 h2 => ?_⟩
    · cases had
      simp only [bv, List.getElem?_map, List.getElem?_take] at hu
      split at hu
      · obtain ⟨b, h2, rfl⟩ := Option.map_eq_some_iff.1 hu
        obtain ⟨z, h3, rfl⟩ := Option.map_eq_some_iff.1 h2
        have hj : j < zs.length := (List.getElem?_eq_some_iff.1 h3).1
        have hz := hcell j hj
        rw [List.getD, h3, Option.getD_some] at hz
        rw [byteOf_nat (hwf z (List.mem_of_getElem? h3))]
        exact s.cellOld .here hz
      · cases hu
    · have hd : d = .slice (lits .u8 (zs.take len)) (lits .u8 (zs.drop len)) := congrArg Prod.fst hx
      subst hd
      have := sized_slice hs h1 h2 ht
      rw [hb, Nat.mul_one] at this
      have e : (lits (H := H) .u8 (zs.take len)).length = len := by simp [lits]; omega
      rw [e] at this
      rw [hl]
      have : len ≤ reachBytes := by omega
      exact this
end
end Go.Vc

namespace Go.Vc

/-! ### loops of a known number of rounds -/
section
variable {P : Program} {B : World} {n : Nat} {K : Kont} {E : Env} {L : List HProp}
def GL (P : Program) (B : World) (n : Nat) (c : Code) (K : Kont) (E : Env) (L : List HProp) : Prop :=
  ∀ a w, RepA a n E → Sat B w L → ∀ b k cs, ∃ e a' w', lift B n K e a' w' ∧ Arrives P (lone (b.at a (.code c :: .inLoop c :: k)) cs w) b k cs e a' w'
theorem gl_start {c : Code} (h : GL P B n c K E L) : GC P B n (.loop c) K E L := fun a w r s b k cs =>
  let ⟨e, a', w', hq, harr⟩ := h a w r s b k cs
  ⟨e, a', w', hq, .of_steps (.one step_loop) harr⟩
theorem gl_round {c : Code} (h : GC P B n c (seqK (GL P B n c K) K) E L) : GL P B n c K E L := by
  intro a w r s b k cs
  obtain ⟨e, a₁, w₁, hq, harr⟩ := h a w r s b (.inLoop c :: k) cs
  cases e with
  | normal =>
    obtain ⟨E1, L1, r1, s1, hg⟩ := hq
    obtain ⟨e₂, a₂, w₂, hq₂, harr₂⟩ := hg a₁ w₁ r1 s1 b k cs
    exact ⟨e₂, a₂, w₂, hq₂, .of_steps (Steps.trans harr (.one step_inLoop)) harr₂⟩
  | exit id => exact ⟨(.exit id), a₁, w₁, hq, .pass (x := .inLoop c) rfl (fun _ _ => .inl (by simp)) harr⟩
  | goto l => exact ⟨(.goto l), a₁, w₁, hq, .pass (x := .inLoop c) rfl (fun _ _ => .inl (by simp)) harr⟩
  | ret => exact ⟨.ret, a₁, w₁, hq, .pass (x := .inLoop c) rfl (fun _ _ => .inl (by simp)) harr⟩
  | panic ch => exact ⟨(.panic ch), a₁, w₁, hq, .pass (x := .inLoop c) rfl (fun _ _ => .inl (by simp)) harr⟩
  | outgrown => exact ⟨.outgrown, a₁, w₁, hq, .pass (x := .inLoop c) rfl (fun _ _ => .inl (by simp)) harr⟩
end
section
variable {P : Program} {E : Env} {L : List HProp} {o : Oper} {v v' : Value}
theorem Ev.to (h : Ev P E L o v) (e : v = v') : Ev P E L o v' := e ▸ h
end
theorem wrapN {i : Int} {m : Nat} (h : i = m) (hm : m < 9223372036854775808) : IntKind.i64.wrap i = (m : Int) := by
  subst h
  exact wrap_id _ _ (by simp only [IntKind.min, IntKind.bits, IntKind.signed]; omega) (by simp only [IntKind.max, IntKind.bits, IntKind.signed]; omega)
theorem wrapU {i : Int} {m : Nat} (h : i = m) (hm : m < 4294967296) : IntKind.u32.wrap i = (m : Int) := by
  subst h
  simp [IntKind.wrap, IntKind.bits, IntKind.signed]
  omega
/-- A number's low part, laid beside a multiple of 2^k. -/
theorem or_nat {a c k : Nat} (hc : c < 2 ^ k) : (a * 2 ^ k) ||| c = a * 2 ^ k + c := by
  rw [← Nat.shiftLeft_eq, Nat.shiftLeft_add_eq_or_of_lt hc]
theorem or32 {x y : Int} {a c k : Nat} (hx : x = ((a * 2 ^ k : Nat) : Int)) (hy : y = (c : Int)) (hc : c < 2 ^ k) (hb : a * 2 ^ k + c < 4294967296) :
    IntKind.u32.wrap (BitVec.ofInt IntKind.u32.bits x ||| BitVec.ofInt IntKind.u32.bits y).toNat = ((a * 2 ^ k + c : Nat) : Int) := by
  subst hx; subst hy
  refine wrapU ?_ hb
  rw [BitVec.toNat_or]
  have e1 : (BitVec.ofInt IntKind.u32.bits ((a * 2 ^ k : Nat) : Int)).toNat = a * 2 ^ k := by
    rw [show IntKind.u32.bits = 32 from rfl, BitVec.ofInt_natCast, BitVec.toNat_ofNat, Nat.mod_eq_of_lt (by omega)]
  have e2 : (BitVec.ofInt IntKind.u32.bits (c : Int)).toNat = c := by
    rw [show IntKind.u32.bits = 32 from rfl, BitVec.ofInt_natCast, BitVec.toNat_ofNat, Nat.mod_eq_of_lt (by omega)]
  rw [e1, e2, or_nat hc]
/-- A byte of a word. -/
def wb (w k : Nat) : UInt8 := UInt8.ofNat (w / 2 ^ k)
theorem byteW {i : Int} {w k : Nat} (h : i = ((w / 2 ^ k : Nat) : Int)) : IntKind.u8.wrap i = ((wb w k).toNat : Int) := by
  subst h
  unfold wb
  rw [UInt8.toNat_ofNat']
  simp only [IntKind.wrap, IntKind.bits, IntKind.signed]
  simp
theorem fdivN {w k : Nat} : (w : Int).fdiv (2 ^ k) = ((w / 2 ^ k : Nat) : Int) := by
  rw [Int.fdiv_eq_ediv_of_nonneg _ (Int.pow_nonneg (by decide))]
  rw [Int.natCast_ediv, Int.natCast_pow]
  rfl
section
variable {P : Program} {B : World} {n : Nat} {E : Env} {L : List HProp}
theorem ret3 {fn : Func} {F L1 : List HProp} {R : Value → List HProp → Prop} {t u q : Tmp} {v x y : Value} (hr : fn.results = #[.tmp t, .tmp u, .tmp q]) (hv : E t = v) (hx : E u = x) (hy : E q = y) (hR : R (.tuple #[v, x, y]) L1) (hs : ∀ w, Sat B w L → Sat B w (L1 ++ F)) :
    retK P B n fn F R .ret E L := by
  have : ∃ v, (∀ a w, RepA a n E → Sat B w L → (results fn a.tmps).run P w = .ok v w) ∧ ∃ L', R v L' ∧ ∀ w, Sat B w L → Sat B w (L' ++ F) :=
    ⟨_, fun a w r _ => by rw [results_tmp3 hr a.tmps P w, r.get t, r.get u, r.get q, hv, hx, hy], L1, hR, hs⟩
  exact this
end
section
variable {P : Program} {E : Env} {L : List HProp} {d : Option Tmp} {t T : TypeId} {ps : String} {af : Array Edge} {gd : Option (Nat × Bool)} {x y : Operand} {k : IntKind} {i j : Int}
theorem e_max {T1 T2 : TypeId} (hx : ev E x = .int k i) (hy : ev E y = .int k j) : Ev P E L ⟨d, .call ⟨.builtin .max, #[x, y], #[T1, T2]⟩, t, ps, af, gd⟩ (.int k (if j > i then j else i)) := fun _ w _ => by
  simp [execOp, resolve, invoke, builtin, hx, hy, Builtin.max_, Builtin.max2]
theorem e_min {T1 T2 : TypeId} (hx : ev E x = .int k i) (hy : ev E y = .int k j) : Ev P E L ⟨d, .call ⟨.builtin .min, #[x, y], #[T1, T2]⟩, t, ps, af, gd⟩ (.int k (if j < i then j else i)) := fun _ w _ => by
  simp [execOp, resolve, invoke, builtin, hx, hy, Builtin.min_, Builtin.min2]
theorem e_sl2 {b off m c e q lo hi : Nat} {l h : Operand} {k k' : IntKind} (hu : P.underlying T = some (.slice e)) (hs : ∀ w, (sizeOf e).run P w = .ok q w) (hx : ev E x = .slice (some ⟨b, off, none⟩) m c) (hl : ev E l = .int k (lo : Int)) (hh : ev E h = .int k' (hi : Int)) (h1 : lo ≤ hi) (h2 : hi ≤ c) (h3 : m ≤ c) :
    Ev P E L ⟨d, .slice T x (some l) (some h) none, t, ps, af, gd⟩ (.slice (some (if c = lo then ⟨b, off, none⟩ else ⟨b, off + lo * q, none⟩)) (hi - lo) (c - lo)) :=
  e_sl (low := some l) (high := some h) hu hs hx ⟨_, hl⟩ ⟨_, hh⟩ h1 h2 h3
theorem e_bdA {S e len kk : Nat} {parts : Array (Nat × Operand)} {z : Value} {cs : List Value} (hu : P.underlying S = some (.array len e)) (hz : ∀ w, (zeroValue S).run P w = .ok z w) (hs : ∀ w, (sizeOf e).run P w = .ok kk w)
    (hf : fillL (fun i => some (i * kk, kk)) z.cells.toList (parts.toList.map fun p => (p.1, ev E p.2)) = some cs) :
    Ev P E L ⟨d, .build S parts, t, ps, af, gd⟩ (.agg ⟨cs⟩) := fun _ w _ => by
  have hf' : Instr.fill (fun i => some (i * kk, kk)) z.cells (parts.map fun p => (p.1, ev E p.2)).toList = some ⟨cs⟩ := by simpa using fill_eq _ hf
  simp only [execOp, Instr.build, Sem.run_bind, hz, run_underlying hu, hs, Result.andThen_ok]
  erw [hf']
  rfl
end
section
variable {P : Program} {B : World} {n : Nat} {E : Env} {L L' : List HProp} {d : Option Tmp} {t T : TypeId} {ps : String} {af : Array Edge} {gd : Option (Nat × Bool)} {x y : Operand} {k : IntKind} {i j : Int}
theorem Tri.imp {f : FuncId} {as : Array Value} {R R' : Value → List HProp → Prop} (h : Tri P f as L R) (k : ∀ v M, R v M → ∃ M', R' v M' ∧ ∀ B w F, Sat B w (M ++ F) → Sat B w (M' ++ F)) : Tri P f as L R' := by
  intro B F w s
  have := h B F w s
  unfold Call at this ⊢
  revert this
  generalize (callFunc f as).run P w = r
  have imp : ∀ v w', (∃ L', R v L' ∧ Sat B w' (L' ++ F)) → ∃ L', R' v L' ∧ Sat B w' (L' ++ F) := fun v w' ⟨L', a, b⟩ => let ⟨M', c, d⟩ := k _ _ a; ⟨M', c, d _ _ _ b⟩
  intro hc
  cases r with
  | ok y w' =>
    cases y <;> simp only [Upon] at hc ⊢
    case value => exact imp _ _ hc
    case skip => exact imp _ _ hc
    case enter => exact Calls.mono hc fun e w'' ⟨v, he, h⟩ => ⟨v, he, imp _ _ h⟩
    case row => exact Rows.mono hc fun v w'' h => imp _ _ h
  | halt y w' => exact hc.elim
theorem Tri.mono {f : FuncId} {as : Array Value} {R R' : Value → List HProp → Prop} (h : Tri P f as L R) (k : ∀ v M, R v M → R' v M) : Tri P f as L R' :=
  h.imp fun v M hR => ⟨M, k v M hR, fun _ _ _ s => s⟩
/-- An element's place, at any address. -/
theorem e_iaA {a : Addr} {m c e q k : Nat} (hu : P.underlying T = some (.slice e)) (hs : ∀ w, (sizeOf e).run P w = .ok k w) (hx : ev E x = .slice (some a) m c) {ik : IntKind} (hy : ev E y = .int ik i) (h0 : i = (q : Int)) (h1 : q < m) :
    Ev P E L ⟨d, .indexAddr T x y, t, ps, af, gd⟩ (.pointer (some (a.add (q * k)))) := fun _ w _ => by
  subst h0
  simp [execOp, Instr.indexAt, hx, hy, asIntOf, run_underlying hu, h1, hs]
theorem e_faA {S fld : Nat} {fs : Array Field} {f : Field} {a : Addr} {sz o : Nat} (hu : P.underlying S = some (.struct fs)) (hx : ev E x = .pointer (some a)) (hf : fs[fld]? = some f)
    (hs : ∀ w, (sizeOf f.type).run P w = .ok sz w) (hz : Nat.beq sz 0 = false := by rfl) (hk : f.offset = o := by (conv => lhs; whnf)) :
    Ev P E L ⟨d, .fieldAddr S x fld, t, ps, af, gd⟩ (.pointer (some (a.add o))) := fun _ w _ => by
  have hz' : sz ≠ 0 := fun h => by subst h; cases hz
  subst hk
  simp [execOp, Instr.fieldAt, run_underlying hu, hf, hx, Instr.sureAddr, fieldPlace, hs, hz']
/-- Nothing. -/
def emp : HProp := fun f => ∀ b, f b = none
/-- A part that is there or not. -/
def optP {α : Type} (o : Option α) (A : α → HProp) : HProp := match o with
  | none => emp
  | some a => A a
theorem emp_cons {f} (h : sepL L f) : sepL (emp :: L) f := ⟨fun _ => none, f, fun _ => rfl, h, fun _ => .inl rfl, fun _ => by simp⟩
theorem Sat.emp {B w : World} (h : Sat B w L) : Sat B w (Vc.emp :: L) := h.imp fun _ => emp_cons
end
end Go.Vc

namespace Go.Vc

/-! ### sets: maps whose values are all alike -/
/-- What a map asks of its key type. -/
structure KeyTy (P : Program) (k : TypeId) {K : Type} [DecidableEq K] (kv : K → Value) : Prop where
  eq : ∀ a b w, (Op.equal k (kv a) (kv b)).run P w = .ok (decide (a = b)) w
  check : ∀ em a w, (Instr.checkKey em 10000 k (kv a)).run P w = .ok () w
  same : ∀ a, Instr.sameBits 10000 (kv a) (kv a) = true
  now : ∃ D, P.underlying k = some D ∧ ∀ a b, Instr.sameNow D (kv a) (kv b) = none

section
variable {P : Program} {K : Type} [DecidableEq K] {kv : K → Value} {k : TypeId}
def ents (kv : K → Value) (v0 : Value) (l : List (K × Nat)) : List MapEntry := l.map fun p => ⟨kv p.1, v0, p.2⟩
def findL (a : K) : List (K × Nat) → Nat → Option Nat
  | [], _ => none
  | p :: l, i => if a = p.1 then some i else findL a l (i + 1)
theorem run_findAsking (T : KeyTy P k kv) (v0 : Value) (a : K) (w : World) : ∀ (l : List (K × Nat)) (i : Nat), (Instr.findAsking k (kv a) (ents kv v0 l) i).run P w = .ok ((findL a l i).map fun j => (j, v0)) w
  | [], i => rfl
  | p :: l, i => by
    have ih := run_findAsking T v0 a w l (i + 1)
    show (Instr.findAsking k (kv a) (⟨kv p.1, v0, p.2⟩ :: ents kv v0 l) i).run P w = _
    simp only [Instr.findAsking, Sem.run_bind, T.eq, Result.andThen_ok]
    by_cases e : a = p.1
    · simp [e, findL]
    · simp only [e, findL, decide_false, Bool.false_eq_true, if_false]
      exact ih
theorem run_findKey (T : KeyTy P k kv) (v0 : Value) (a : K) (w : World) (l : List (K × Nat)) : (Instr.findKey k (kv a) (ents kv v0 l)).run P w = .ok ((findL a l 0).map fun j => (j, v0)) w := by
  obtain ⟨D, hD, hn⟩ := T.now
  unfold Instr.findKey
  simp only [Sem.run_bind, run_underlying hD, Result.andThen_ok]
  cases l with
  | nil => rfl
  | cons p l =>
    have : Instr.findNow D (kv a) (ents kv v0 (p :: l)) 0 = none := by
      show Instr.findNow D (kv a) (⟨kv p.1, v0, p.2⟩ :: ents kv v0 l) 0 = none
      simp [Instr.findNow, hn]
    rw [this]
    exact run_findAsking T v0 a w (p :: l) 0
theorem findL_none {a : K} : ∀ {l : List (K × Nat)} {i : Nat}, findL a l i = none → a ∉ l.map (·.1)
  | [], _, _ => by simp
  | p :: l, i, h => by
    unfold findL at h
    split at h
    · cases h
    · rename_i e
      simp only [List.map_cons, List.mem_cons, not_or]
      exact ⟨e, findL_none h⟩
theorem findL_some {a : K} : ∀ {l : List (K × Nat)} {i j : Nat}, findL a l i = some j → ∃ b, i ≤ j ∧ l[j - i]? = some (a, b)
  | [], _, _, h => by cases h
  | p :: l, i, j, h => by
    unfold findL at h
    split at h
    · rename_i e
      cases h
      exact ⟨p.2, Nat.le_refl _, by simp [e]⟩
    · obtain ⟨b, h1, h2⟩ := findL_some h
      refine ⟨b, by omega, ?_⟩
      rw [show j - i = (j - (i + 1)) + 1 by omega, List.getElem?_cons_succ]
      exact h2
theorem findL_mem {a : K} {l : List (K × Nat)} {i : Nat} (h : a ∈ l.map (·.1)) : (findL a l i).isSome = true := by
  cases e : findL a l i with
  | none => exact absurd h (findL_none e)
  | some j => rfl
/-- A set in memory: its entries, in order, with their stamps; the clock. -/
def setB (kv : K → Value) (v0 : Value) (b : Nat) (l : List (K × Nat)) (c : Nat) : HProp := pts b (.map ⟨ents kv v0 l⟩ c)
variable {ops : Array Oper} {E : Env} {L L' : List HProp} {d : Option Tmp} {t T : TypeId} {ps : String} {af : Array Edge} {gd : Option (Nat × Bool)} {x y z : Operand} {b c : Nat} {l : List (K × Nat)} {v0 : Value} {a : K}
omit [DecidableEq K] in
theorem s_mm : Eff P E L ⟨d, .makeMap T none, t, ps, af, gd⟩ (fun v M => ∃ b, v = .map (some b) ∧ M = setB kv v0 b [] 0 :: L) := fun B F w s => by
  have hr : (Instr.makeMap T none).run P w = .ok (.map (some w.heap.size)) (w.alloc (.map #[] 0)) := rfl
  simp only [execOp, Option.map_none, Sem.run_bind, hr, Result.andThen_ok, Sem.run_pure, Upon]
  exact ⟨_, ⟨w.heap.size, rfl, rfl⟩, sat_new s _⟩
def addL (l : List (K × Nat)) (a : K) (c : Nat) : List (K × Nat) × Nat := if a ∈ l.map (·.1) then (l, c) else (l ++ [(a, c)], c + 1)
theorem s_mu {e : TypeId} (KT : KeyTy P k kv) (hu : P.underlying T = some (.map k e)) (hx : ev E x = .map (some b)) (hy : ev E y = kv a) (hz : ev E z = v0) (hd : Turn (setB kv v0 b l c) (setB kv v0 b (addL l a c).1 (addL l a c).2) L L') :
    Eff P E L ⟨d, .mapUpdate T x y z, t, ps, af, gd⟩ (fun v M => v = undef ∧ M = L') := fun B F w s => by
  obtain ⟨M, d1, d2⟩ := hd.split
  have hb := s.read (d1.append (F := F))
  have hset : ∀ o, (setObj b o).run P w = .ok () { w with heap := w.heap.setIfInBounds b o } := fun o => MapKept.run_setObj_map o hb
  have hlt : b < w.heap.size := (Array.getElem?_eq_some_iff.1 hb).1
  have fin : ∀ o, o = Obj.map ⟨ents kv v0 (addL l a c).1⟩ (addL l a c).2 → Upon P (fun v w' => ∃ L'', (v = undef ∧ L'' = L') ∧ Sat B w' (L'' ++ F)) (.ok .skip { w with heap := w.heap.setIfInBounds b o }) := fun o ho => by
    subst ho
    exact ⟨L', ⟨rfl, rfl⟩, s.change hd.append rfl rfl rfl (by simp [hlt]) fun q hq => by simp [Ne.symm hq]⟩
  simp only [execOp, Instr.mapUpdate, hx, hy, hz, Sem.run_bind, run_underlying hu, Result.andThen_ok, MapKept.run_getObj_map hb, KT.check, run_findKey KT]
  cases hf : findL a l 0 with
  | none =>
    have hn := findL_none hf
    simp only [Option.map_none, hset, Sem.run_pure, Result.andThen_ok]
    refine fin _ ?_
    simp [addL, hn, ents]
  | some j =>
    obtain ⟨q, _, hj⟩ := findL_some hf
    rw [Nat.sub_zero] at hj
    have hm : a ∈ l.map (·.1) := List.mem_map.2 ⟨_, List.mem_of_getElem? hj, rfl⟩
    have hje : (⟨ents kv v0 l⟩ : Array MapEntry)[j]? = some ⟨kv a, v0, q⟩ := by simp [ents, hj]
    have hk : (Instr.keyThatStays (kv a) (kv a)).run P w = .ok (kv a) w := by simp [Instr.keyThatStays, KT.same]
    simp only [Option.map_some, hje, Option.getD_some, Sem.run_bind, hk, Result.andThen_ok, hset, Sem.run_pure]
    refine fin _ ?_
    have : (⟨ents kv v0 l⟩ : Array MapEntry).modify j (fun e => { e with key := kv a, val := v0 }) = ⟨ents kv v0 l⟩ := by
      apply Array.ext'
      apply List.ext_getElem?
      intro i
      rw [Array.getElem?_toList, Array.getElem?_toList, Array.getElem?_modify]
      split
      · rename_i h; subst h; rw [hje]; rfl
      · rfl
    rw [this]
    simp [addL, hm]
theorem e_lk {e : TypeId} {z0 : Value} (KT : KeyTy P k kv) (hu : P.underlying T = some (.map k e)) (hz : ∀ w, (zeroValue e).run P w = .ok z0 w) (hx : ev E x = .map (some b)) (hy : ev E y = kv a) (hd : Del (setB kv v0 b l c) L L') :
    Ev P E L ⟨d, .lookup T x y false, t, ps, af, gd⟩ (if a ∈ l.map (·.1) then v0 else z0) := fun B w s => by
  have hb := s.read hd
  have hr : (Instr.lookup T (.map (some b)) (kv a) false).run P w = .ok (if a ∈ l.map (·.1) then v0 else z0) w := by
    simp only [Instr.lookup, Sem.run_bind, run_underlying hu, Result.andThen_ok, MapKept.run_getObj_map hb, KT.check, run_findKey KT, Sem.run_pure]
    cases hf : findL a l 0 with
    | none =>
      have hn := findL_none hf
      simp [hn, hz]
    | some j =>
      obtain ⟨q, _, hj⟩ := findL_some hf
      rw [Nat.sub_zero] at hj
      have hm : a ∈ l.map (·.1) := List.mem_map.2 ⟨_, List.mem_of_getElem? hj, rfl⟩
      simp [hm]
  simp only [execOp, hx, hy, Sem.run_bind, hr, Result.andThen_ok, Sem.run_pure]
theorem map_eraseIdx' {α β : Type} (f : α → β) : ∀ (l : List α) (j : Nat), (l.eraseIdx j).map f = (l.map f).eraseIdx j
  | [], _ => rfl
  | _ :: _, 0 => rfl
  | x :: l, j + 1 => by simp [List.eraseIdx_cons_succ, map_eraseIdx' f l j]
def delL (l : List (K × Nat)) (a : K) : List (K × Nat) := match findL a l 0 with
  | some j => l.eraseIdx j
  | none => l
theorem s_del {e : TypeId} (KT : KeyTy P k kv) (hu : P.underlying T = some (.map k e)) (hx : ev E x = .map (some b)) (hy : ev E y = kv a) (hd : Turn (setB kv v0 b l c) (setB kv v0 b (delL l a) c) L L') :
    Eff P E L ⟨d, .call ⟨.builtin .delete, #[x, y], #[T, k]⟩, t, ps, af, gd⟩ (fun v M => v = .tuple #[] ∧ M = L') := fun B F w s => by
  obtain ⟨M, d1, d2⟩ := hd.split
  have hb := s.read (d1.append (F := F))
  have hset : ∀ o, (setObj b o).run P w = .ok () { w with heap := w.heap.setIfInBounds b o } := fun o => MapKept.run_setObj_map o hb
  have hlt : b < w.heap.size := (Array.getElem?_eq_some_iff.1 hb).1
  have fin : ∀ o, o = Obj.map ⟨ents kv v0 (delL l a)⟩ c → Upon P (fun v w' => ∃ L'', (v = Value.tuple #[] ∧ L'' = L') ∧ Sat B w' (L'' ++ F)) (.ok (.value (.tuple #[])) { w with heap := w.heap.setIfInBounds b o }) := fun o ho => by
    subst ho
    exact ⟨L', ⟨rfl, rfl⟩, s.change hd.append rfl rfl rfl (by simp [hlt]) fun q hq => by simp [Ne.symm hq]⟩
  have hdel : ∀ ty, (Builtin.delete_ #[T, k] ty #[.map (some b), kv a]).run P w = .ok (.tuple #[]) { w with heap := w.heap.setIfInBounds b (Obj.map ⟨ents kv v0 (delL l a)⟩ c) } := fun ty => by
    simp only [Builtin.delete_, Sem.run_bind, run_underlying hu, Result.andThen_ok, MapKept.run_getObj_map hb, KT.check, run_findKey KT, List.getElem?_toArray, List.getElem?_cons_zero, List.getElem?_cons_succ]
    unfold delL
    cases hf : findL a l 0 with
    | none => simp [hset, Result.andThen]
    | some j =>
      have : (⟨ents kv v0 l⟩ : Array MapEntry).eraseIdxIfInBounds j = ⟨ents kv v0 (l.eraseIdx j)⟩ := by
        apply Array.ext'
        simp [Array.eraseIdxIfInBounds]
        split
        · exact (map_eraseIdx' _ _ _).symm
        · rename_i h
          simp [ents] at h
          simp [ents, List.eraseIdx_of_length_le h]
      simp [hset, this, Result.andThen]
  have hrun : (execOp (ev E) ⟨d, .call ⟨.builtin .delete, #[x, y], #[T, k]⟩, t, ps, af, gd⟩).run P w = .ok (.value (.tuple #[])) { w with heap := w.heap.setIfInBounds b (Obj.map ⟨ents kv v0 (delL l a)⟩ c) } := by
    simp [execOp, resolve, invoke, builtin, hx, hy, hdel, Result.andThen]
  rw [hrun]
  exact fin _ rfl
/-- The iterator: which set, the stamps that it has handed out. -/
def iterB (bi b since : Nat) (seen : Array Nat) (last : Nat) : HProp := pts bi (.mapIter (some b) since seen last)
omit [DecidableEq K] in
theorem s_rg {e : TypeId} (hu : P.underlying T = some (.map k e)) (hx : ev E x = .map (some b)) (hd : Del (setB kv v0 b l c) L L') :
    Eff P E L ⟨d, .range T x, t, ps, af, gd⟩ (fun v M => ∃ bi, v = .pointer (some ⟨bi, 0, none⟩) ∧ M = iterB bi b c #[] c :: L) := fun B F w s => by
  have hb := s.read (hd.append (F := F))
  simp only [execOp, hx, Sem.run_bind, run_range_map w T k e b _ c hu hb, Result.andThen_ok, Sem.run_pure, Upon]
  exact ⟨_, ⟨w.heap.size, rfl, rfl⟩, sat_new s _⟩
def nextV (kv : K → Value) (v0 : Value) : Option (K × Nat) → Value
  | none => .tuple #[.bool false]
  | some p => .tuple #[.bool true, kv p.1, v0]
omit [DecidableEq K] in
theorem e_nx {o : Option (K × Nat)} (hx : ev E x = nextV kv v0 o) : Ev P E L ⟨d, .extract x 0, t, ps, af, gd⟩ (.bool o.isSome) := by
  cases o with
  | none => show Ev P E L _ (.bool false); exact e_ex hx
  | some p => show Ev P E L _ (.bool true); exact e_ex hx
omit [DecidableEq K] in
theorem run_setObj_it {w : World} {r : Nat} {m : Option Nat} {si la : Nat} {se : Array Nat} (o' : Obj) (hb : w.heap[r]? = some (.mapIter m si se la)) : (setObj r o').run P w = .ok () { w with heap := w.heap.setIfInBounds r o' } := by
  simp only [setObj, Sem.run, hb]
omit [DecidableEq K] in
theorem run_getObj_it {w : World} {r : Nat} {m : Option Nat} {si la : Nat} {se : Array Nat} (hb : w.heap[r]? = some (.mapIter m si se la)) : (getObj r).run P w = .ok (.mapIter m si se la) w := by
  simp only [getObj, Sem.run, hb]
/-- The tape's word on a choice: some number below; nothing changes but the count of draws. -/
theorem run_choose_lt (n : Nat) (hn : 0 < n) (w : World) : ∃ j w1, j < n ∧ w1.heap = w.heap ∧ w1.os = w.os ∧ w1.tape = w.tape ∧ w1.output = w.output ∧ (choose (Question.mapNext n)).run P w = .ok j w1 := by
  by_cases hf : n ≤ 1
  · exact ⟨0, w, by omega, rfl, rfl, rfl, rfl, by simp [choose, Sem.run, Question.forced, hf]⟩
  · exact ⟨_, w.drew, Nat.mod_lt _ (by omega), rfl, rfl, rfl, rfl, by
      simp only [choose, Sem.run, Question.forced, decide_eq_true_eq, hf, if_false, Question.cut]
      rfl⟩
def stepI (bi b since : Nat) (seen : Array Nat) (last c : Nat) : Option (K × Nat) → HProp
  | none => iterB bi b since seen last
  | some p => iterB bi b since (seen.push p.2) c
def nextC (l : List (K × Nat)) (seen : Array Nat) : Option (K × Nat) → Prop
  | none => ∀ p ∈ l, p.2 ∈ seen
  | some p => p ∈ l ∧ p.2 ∉ seen
omit [DecidableEq K] in
theorem s_nx {bi since last : Nat} {seen : Array Nat} {Lf : HProp → List HProp} (hx : ev E x = .pointer (some ⟨bi, 0, none⟩)) (hb : Del (setB kv v0 b l c) L L') (hd : ∀ it, Turn (iterB bi b since seen last) it L (Lf it)) (hold : ∀ p ∈ l, p.2 < since) (hl : since ≤ last) :
    Eff P E L ⟨d, .next x false, t, ps, af, gd⟩ (fun v M => ∃ o, v = nextV kv v0 o ∧ nextC l seen o ∧ M = Lf (stepI bi b since seen last c o)) := fun B F w s => by
  have hm := s.read (hb.append (F := F))
  obtain ⟨M0, d1, d2⟩ := (hd (iterB bi b since seen last)).split
  have hi := s.read (d1.append (F := F))
  have hlt : bi < w.heap.size := (Array.getElem?_eq_some_iff.1 hi).1
  have hne : bi ≠ b := by
    intro e
    rw [e] at hi
    rw [hm] at hi
    cases hi
  have hold' : ∀ e ∈ (⟨ents kv v0 l⟩ : Array MapEntry).toList, e.born < since := fun e he => by
    obtain ⟨p, hp, rfl⟩ := List.mem_map.1 he
    exact hold p hp
  have hrun : ∃ (o : Option (K × Nat)) (w1 : World), nextC l seen o ∧ w1.heap = w.heap ∧ w1.os = w.os ∧ w1.tape = w.tape ∧ w1.output = w.output ∧
      (Instr.next (.pointer (some ⟨bi, 0, none⟩)) false t).run P w = .ok (nextV kv v0 o) (match o with | none => w1 | some p => { w1 with heap := w1.heap.setIfInBounds bi (.mapIter (some b) since (seen.push p.2) c) }) := by
    simp only [Instr.next, Sem.run_bind, run_getObj_it hi, MapKept.run_getObj_map hm, Result.andThen_ok, next_test_false seen _ since last hold' hl, Bool.false_eq_true, if_false]
    have hleft : (Array.filter (fun e => !seen.contains e.born) (⟨ents kv v0 l⟩ : Array MapEntry)).toList = ents kv v0 (l.filter fun p => !seen.contains p.2) := by
      simp only [Array.toList_filter]
      show List.filter _ (List.map _ l) = List.map _ (List.filter _ l)
      rw [List.filter_map]
      rfl
    have hmem : ∀ x ∈ (Array.filter (fun e => !seen.contains e.born) (⟨ents kv v0 l⟩ : Array MapEntry)).toList, x.born < since := fun x hx => hold' x (by simp at hx ⊢; exact hx.1)
    generalize Array.filter (fun e => !seen.contains e.born) (⟨ents kv v0 l⟩ : Array MapEntry) = L0 at hleft hmem ⊢
    have e1 : L0.filter (fun x => decide (x.born < since)) = L0 := Array.filter_eq_self.2 (fun x hx => by simpa using hmem x (by simpa using hx))
    have e2 : L0.filter (fun x => decide (x.born ≥ since)) = #[] := by
      rw [Array.filter_eq_empty_iff]
      intro x hx
      have := hmem x (by simpa using hx)
      simp
      omega
    simp only [e1, e2, Array.append_empty]
    by_cases h0 : L0.size = 0
    · have h00 : L0 = #[] := Array.eq_empty_of_size_eq_zero h0
      subst h00
      refine ⟨none, w, fun p hp => ?_, rfl, rfl, rfl, rfl, ?_⟩
      · have : l.filter (fun p => !seen.contains p.2) = [] := by simpa [ents] using hleft.symm
        have := List.filter_eq_nil_iff.1 this p hp
        simpa using this
      · simp [choose, Sem.run, Question.forced, nextV]
    · have hne : L0.isEmpty = false := by simp [Array.isEmpty, h0]
      simp only [hne, Bool.false_eq_true, if_false, Array.empty_append, Array.size_map]
      obtain ⟨j, w1, hj, h1, h2, h3, h4, hch⟩ := run_choose_lt (P := P) L0.size (by omega) w
      have hlen : L0.size = (l.filter fun p => !seen.contains p.2).length := by
        have := congrArg List.length hleft
        simpa [ents] using this
      have hjl : j < (l.filter fun p => !seen.contains p.2).length := by omega
      have hget : L0[j] = ⟨kv ((l.filter fun p => !seen.contains p.2)[j]).1, v0, ((l.filter fun p => !seen.contains p.2)[j]).2⟩ := by
        have h5 : L0.toList[j]? = (ents kv v0 (l.filter fun p => !seen.contains p.2))[j]? := by rw [hleft]
        rw [Array.getElem?_toList, Array.getElem?_eq_getElem hj] at h5
        simp only [ents, List.getElem?_map, List.getElem?_eq_getElem hjl, Option.map_some] at h5
        exact Option.some.inj h5
      have hp := List.mem_filter.1 (List.getElem_mem hjl)
      refine ⟨some ((l.filter fun p => !seen.contains p.2)[j]), w1, ⟨hp.1, by simpa using hp.2⟩, h1, h2, h3, h4, ?_⟩
      have hi1 : w1.heap[bi]? = some (.mapIter (some b) since seen last) := by rw [h1]; exact hi
      simp only [hch, Array.getElem?_map, Array.getElem?_eq_getElem hj, Option.map_some, Sem.run_bind, run_setObj_it _ hi1, Result.andThen, hget, Sem.run_pure]
      rfl
  obtain ⟨o, w1, hc, h1, h2, h3, h4, hr⟩ := hrun
  simp only [execOp, hx, Sem.run_bind, hr, Result.andThen_ok, Sem.run_pure, Upon]
  refine ⟨_, ⟨o, rfl, hc, rfl⟩, ?_⟩
  cases o with
  | none => exact (s.same h2 h3 h4 h1).change (w' := w1) (hd _).append rfl rfl rfl (by rw [h1]; exact hi) fun q _ => rfl
  | some p =>
    refine s.change (hd (iterB bi b since (seen.push p.2) c)).append h2 h3 h4 ?_ fun q hq => ?_
    · show (w1.heap.setIfInBounds bi _)[bi]? = _
      simp [h1, hlt]
    · show (w1.heap.setIfInBounds bi _)[q]? = _
      simp [h1, Ne.symm hq]
def nextE (kv : K → Value) (v0 : Value) (p : K × Nat) : Value := .tuple #[kv p.1, v0]
omit [DecidableEq K] in
/-- The entry that the iterator handed out last. -/
theorem e_en {bi since : Nat} {seen : Array Nat} {p : K × Nat} (hx : ev E x = .pointer (some ⟨bi, 0, none⟩)) (hb : Del (setB kv v0 b l c) L L') {L2 : List HProp} (hi : Del (iterB bi b since (seen.push p.2) c) L L2) (hp : p ∈ l) (hn : (l.map (·.2)).Nodup) :
    Ev P E L ⟨d, .entry x, t, ps, af, gd⟩ (nextE kv v0 p) := fun B w s => by
  have hm := s.read hb
  have hit := s.read hi
  have hf : (⟨ents kv v0 l⟩ : Array MapEntry).find? (·.born == p.2) = some ⟨kv p.1, v0, p.2⟩ := by
    rw [← Array.find?_toList]
    exact find_born ⟨kv p.1, v0, p.2⟩ (ents kv v0 l) (by simpa [ents, Function.comp_def] using hn) (List.mem_map.2 ⟨p, hp, rfl⟩)
  have hr : (Instr.entry (.pointer (some ⟨bi, 0, none⟩))).run P w = .ok (nextE kv v0 p) w := by
    simp only [Instr.entry, Sem.run_bind, run_getObj_it hit, MapKept.run_getObj_map hm, Result.andThen_ok, Array.back?_push, bne_self_eq_false, Bool.false_eq_true, if_false, hf]
    rfl
  simp only [execOp, hx, Sem.run_bind, hr, Result.andThen_ok, Sem.run_pure]
theorem delL_filter {a : K} : ∀ (l : List (K × Nat)), (l.map (·.1)).Nodup → delL l a = l.filter fun p => decide (p.1 ≠ a)
  | [], _ => rfl
  | p :: l, h => by
    have h' : p.1 ∉ l.map (·.1) ∧ (l.map (·.1)).Nodup := List.nodup_cons.1 h
    have ih := delL_filter l h'.2 (a := a)
    have sh : ∀ (l : List (K × Nat)) (i : Nat), findL a l (i + 1) = (findL a l i).map (· + 1) := by
      intro l
      induction l with
      | nil => intro i; rfl
      | cons q l ih =>
        intro i
        unfold findL
        split
        · rfl
        · exact ih (i + 1)
    unfold delL at ih ⊢
    by_cases e : a = p.1
    · subst e
      simp only [findL, if_true, List.eraseIdx_cons_zero, ne_eq, List.filter_cons, not_true_eq_false, decide_false, Bool.false_eq_true, if_false]
      refine (List.filter_eq_self.2 fun q hq => ?_).symm
      simp only [decide_eq_true_eq]
      exact fun e => h'.1 (List.mem_map.2 ⟨q, hq, e⟩)
    · have : findL a (p :: l) 0 = (findL a l 0).map (· + 1) := by
        rw [← sh l 0]
        show (if a = p.1 then some 0 else findL a l (0 + 1)) = _
        rw [if_neg e]
      rw [this, List.filter_cons, if_pos (by simpa using Ne.symm e), ← ih]
      cases findL a l 0 with
      | none => rfl
      | some j => rfl
end
end Go.Vc

namespace Go.Vc

/-! ### cuts: many ways through a region, one way on -/
section
variable {P : Program} {B : World} {n : Nat} {K : Kont} {E : Env} {L : List HProp}
theorem gc_mono {c : Code} {K' : Kont} (h : GC P B n c K E L) (k : ∀ e E L, K e E L → K' e E L) : GC P B n c K' E L :=
  fun a w r s => wp_mono (h a w r s) fun e a w => lift_mono k e a w
theorem gc_cut {c : Code} {f : Env → List HProp → Prop} (I : Env → List HProp → Prop) (h : GC P B n c (seqK I K) E L) (k : ∀ E L, I E L → f E L) : GC P B n c (seqK f K) E L :=
  gc_mono h fun e E L => by cases e <;> first | exact k E L | exact id
end
section
variable {P : Program} {B : World} {n : Nat} {ops : Array Oper} {K : Kont} {E : Env} {D : List HProp}
theorem gp_nil0 {fin : Option Nat} (h : K .normal E D) : GP P B n ops fin [] K E D [] := gp_nil (by rw [List.append_nil]; exact h)
end
/-! ### a window into a longer block -/
theorem mid_get {α : Type} (pre Y : List α) (k : Nat) : (pre ++ Y)[pre.length + k]? = Y[k]? := by
  rw [List.getElem?_append_right (Nat.le_add_right _ _), Nat.add_sub_cancel_left]
theorem mid_set {α : Type} (pre Y : List α) (k : Nat) (v : α) : (pre ++ Y).set (pre.length + k) v = pre ++ Y.set k v := by
  rw [List.set_append_right _ _ (Nat.le_add_right _ _), Nat.add_sub_cancel_left]
section
variable {P : Program} {E : Env} {L L' : List HProp} {d : Option Tmp} {t T : TypeId} {ps : String} {af : Array Edge} {gd : Option (Nat × Bool)} {x y : Operand} {v u : Value}
theorem e_ldm {T' b : Nat} {D : TypeDesc} {pre Y : List Value} (k : Nat) (hu : P.underlying T = some D) (hx : ev E x = .pointer (some ⟨b, pre.length + k, none⟩)) (hd : Del (blk b T' (pre ++ Y)) L L') (hv : Y[k]? = some v)
    (hD : aggD D = false := by rfl) : Ev P E L ⟨d, .load T x, t, ps, af, gd⟩ v :=
  e_ld hu hx hd ((mid_get pre Y k).trans hv) hD
theorem s_stm {T' b : Nat} {pre Y : List Value} (k : Nat) (hs : ∀ w, (sizeOf T).run P w = .ok 1 w) (hx : ev E x = .pointer (some ⟨b, pre.length + k, none⟩)) (hd : Turn (blk b T' (pre ++ Y)) (blk b T' (pre ++ Y.set k v)) L L')
    (hy : ev E y = v := by (conv => lhs; whnf)) (hk : k < Y.length := by (first | exact Nat.le_of_ble_eq_true rfl | simp)) (h1 : v.oneCell' = true := by rfl) : Eff P E L ⟨d, .store T x y, t, ps, af, gd⟩ (stR L') := by
  rw [← mid_set] at hd
  exact s_st hs hx hd hy (by rw [List.length_append]; omega) h1
end
/-! ### a result that lies in a cell -/
section
variable {P : Program} {B : World} {n : Nat} {E : Env} {L : List HProp}
theorem results_cell1 {fn : Func} {p : Tmp} {ty : TypeId} (h : fn.results = #[.cell p ty]) (tmps : Array Value) (P : Program) (w : World) :
    (results fn tmps).run P w = ((asAddr (tmps.getD p undef)).run P w).andThen fun a w1 => (loadVar ty a).run P w1 := by
  simp only [results, h]
  simp [Sem.run_bind, Result.andThen]
theorem run_loadVar_agg {w : World} {b k : Nat} {T T' : TypeId} {D : TypeDesc} {cs : List Value} (hu : P.underlying T = some D) (hs : ∀ w, (sizeOf T).run P w = .ok k w) (hk : cs.length = k) (hD : aggD D = true) (hb : w.heap[b]? = some (.cells ⟨cs⟩ T' (0, 0))) :
    (loadVar T ⟨b, 0, none⟩).run P w = .ok (.agg ⟨cs⟩) w := by
  have hi := run_isAgg hu w
  rw [hD] at hi
  have hl := run_loadCells_list (P := P) (w := w) ⟨b, 0, none⟩ cs fun j u hj => by
    rw [add_lit, cell_blk hb, Nat.zero_add]
    exact hj
  rw [hk] at hl
  simp [loadVar, hi, hs, hl]
theorem retc {fn : Func} {F L1 L' : List HProp} {R : Value → List HProp → Prop} {t : Tmp} {b k : Nat} {T T' : TypeId} {D : TypeDesc} {cs : List Value} (hr : fn.results = #[.cell t T]) (hv : E t = .pointer (some ⟨b, 0, none⟩)) (hu : P.underlying T = some D) (hd : Del (blk b T' cs) L L')
    (hsz : ∀ w, (sizeOf T).run P w = .ok k w) (hk : cs.length = k) (hD : aggD D = true) (hR : R (.agg ⟨cs⟩) L1) (hs : ∀ w, Sat B w L → Sat B w (L1 ++ F)) :
    retK P B n fn F R .ret E L := by
  have : ∃ v, (∀ a w, RepA a n E → Sat B w L → (results fn a.tmps).run P w = .ok v w) ∧ ∃ L', R v L' ∧ ∀ w, Sat B w L → Sat B w (L' ++ F) :=
    ⟨_, fun a w r s => by
      rw [results_cell1 hr a.tmps P w, r.get t, hv]
      have ha : (asAddr (.pointer (some ⟨b, 0, none⟩))).run P w = .ok ⟨b, 0, none⟩ w := rfl
      rw [ha]
      exact run_loadVar_agg hu hsz hk hD (s.read hd), L1, hR, hs⟩
  exact this
end
/-! ### a call of a function's value -/
section
variable {P : Program} {E : Env} {L L' : List HProp} {d : Option Tmp} {t T : TypeId} {ps : String} {af : Array Edge} {gd : Option (Nat × Bool)} {x : Operand}
theorem s_callv {f : FuncId} {as : Array Operand} {ts : Array TypeId} {vs : List Value} {L1 F : List HProp} {R : Value → List HProp → Prop} (C : Tri P f ⟨vs⟩ L1 R) (hp : Pick L1 L F) (hx : ev E x = .func (.func f) #[] #[]) (hv : as.toList.map (ev E) = vs := by rfl) :
    Eff P E L ⟨d, .call ⟨.value x, as, ts⟩, t, ps, af, gd⟩ (fun v M => ∃ L2, R v L2 ∧ M = L2 ++ F) := by
  have h := s_call (P := P) (E := E) (L := L) (d := d) (t := t) (ps := ps) (af := af) (gd := gd) (ts := ts) C hp hv
  intro B G w s
  have := h B G w s
  have e : (execOp (ev E) ⟨d, .call ⟨.value x, as, ts⟩, t, ps, af, gd⟩).run P w = (execOp (ev E) ⟨d, .call ⟨.value (.func f), as, ts⟩, t, ps, af, gd⟩).run P w := by
    have hx' : ev E x = ev E (.func f) := hx
    simp only [execOp, resolve]
    rw [hx']
  rw [e]
  exact this
/-- An element of what is read at any address. -/
theorem Rds.cell {w : World} {a : Addr} {m c : Nat} {bs : List UInt8} (h : Rds w 1 (.slice (some a) m c) m (bv bs)) {j : Nat} {b : UInt8} (hb : bs[j]? = some b) : w.cell? (a.add (j * 1)) = some (.int .u8 (b.toNat : Int)) := by
  obtain ⟨_, a', c', h1, _, h2⟩ := h
  cases h1
  rw [Nat.mul_one]
  exact h2 a rfl j _ (by simp [bv, hb])
theorem Rds.some_ {w : World} {a : Option Addr} {m c : Nat} {bs : List UInt8} (h : Rds w 1 (.slice a m c) m (bv bs)) (hm : 0 < m) : ∃ ad, a = some ad := by
  obtain ⟨_, a', c', h1, h2, _⟩ := h
  cases h1
  cases a with
  | none => exact absurd (h2 rfl).1 (by omega)
  | some ad => exact ⟨ad, rfl⟩
end
end Go.Vc

namespace Go.Vc
section
variable {P : Program} {B w : World} {E : Env} {L L' : List HProp} {d : Option Tmp} {t T : TypeId} {ps : String} {af : Array Edge} {gd : Option (Nat × Bool)} {x y : Operand} {v u : Value}
theorem own_len {e k m : Nat} {xs : List Value} (s : Sat B w L) (hd : Del (sown e k v m xs) L L') : m ≤ maxLen := by
  obtain ⟨f, ⟨g, h, ⟨hl, hg⟩, _, _, _⟩, _⟩ := (s.front hd).heap
  rcases hg with ⟨_, rfl, _⟩ | ⟨b, cap, rest, _, h1, h2, _⟩
  · exact Nat.zero_le _
  · omega
/-- A whole struct loaded, at any address. -/
theorem e_ldAc {k : Nat} {D : TypeDesc} {a : Addr} {xs : List Value} (hu : P.underlying T = some D) (hx : ev E x = .pointer (some a)) (hs : ∀ w, (sizeOf T).run P w = .ok k w) (hl : xs.length = k)
    (hc : ∀ B w, Sat B w L → ∀ j u, xs[j]? = some u → w.cell? (a.add j) = some u) (hD : aggD D = true := by rfl) : Ev P E L ⟨d, .load T x, t, ps, af, gd⟩ (.agg ⟨xs⟩) := fun B w s => by
  have hi := run_isAgg hu w
  rw [hD] at hi
  have h := run_loadCells_list (P := P) (w := w) a xs (hc B w s)
  rw [hl] at h
  simp [execOp, Instr.loadAt, hx, Instr.sureAddr, loadVar, hi, hs, h]
theorem Sat.rdsk {k b e m c : Nat} {xs rest : List Value} (s : Sat B w L) (hd : Del (blk b e (xs ++ rest)) L L') (hl : xs.length = m * k) : Rds w k (.slice (some ⟨b, 0, none⟩) m c) m xs := by
  refine ⟨hl, _, _, rfl, (fun h => by cases h), fun ad had j u hj => ?_⟩
  cases had
  rw [add_lit, cell_blk (s.read hd), Nat.zero_add, List.getElem?_append_left (List.getElem?_eq_some_iff.1 hj).1]
  exact hj
theorem Sat.rdsk0 {k b e m c : Nat} {xs : List Value} (s : Sat B w L) (hd : Del (blk b e xs) L L') (hl : xs.length = m * k) : Rds w k (.slice (some ⟨b, 0, none⟩) m c) m xs := by
  have h := s.rdsk (rest := []) (xs := xs) (c := c) (by rw [List.append_nil]; exact hd) hl
  exact h
/-- An append onto nil. -/
theorem s_apn {e k bytes c : Nat} {i : TypeInfo} {z : Value} {news : List Value} (ht : P.underlying T = some (.slice e)) (hi : P.info? e = some i) (hz : i.zero = some z) (hk : i.size = k) (hby : i.bytes = bytes) (hzs : z.cells.size = k) (hk0 : 0 < k)
    (hx : ev E x = .slice none 0 0) (hy : ev E y = u) (hr : ∀ B w, Sat B w L → Rds w k u c news) (h1 : ∀ u ∈ news, u.oneCell' = true) (hb : c * bytes ≤ 140737488355328) (hm : c ≤ maxLen) :
    Eff P E L ⟨d, .call ⟨.builtin .append, #[x, y], #[T, T]⟩, t, ps, af, gd⟩ (fun v M => ∃ a' c', v = .slice a' c c' ∧ M = sown e k (.slice a' c c') c news :: L ∧ a'.isNone = Nat.beq c 0) := fun B F w s => by
  have s2 : Sat B w (sown e k (.slice none 0 0) 0 [] :: L ++ F) := s.imp fun f hf => ⟨fun _ => none, f, nil_fold _ (fun _ => rfl), hf, fun _ => .inl rfl, fun _ => by simp⟩
  have h2 := s_ap (P := P) (E := E) (L := sown e k (.slice none 0 0) 0 [] :: L) (L' := L) (m := 0) (xs := []) (d := d) (t := t) (ps := ps) (af := af) (gd := gd) ht hi hz hk hby hzs hk0 hx hy .here (u := u) (c := c) (news := news)
    (fun B w h => hr B w h.tail) h1 (by simpa using hb) (by simpa using hm) B F w s2
  simpa [apR, isNil] using h2
/-- A whole struct stored in a window. -/
theorem s_stAm {T' b k : Nat} {pre X us post : List Value} (hs : ∀ w, (sizeOf T).run P w = .ok k w) (hx : ev E x = .pointer (some ⟨b, pre.length, none⟩)) (hv : ev E y = .agg ⟨us⟩) (hd : Turn (blk b T' (pre ++ (X ++ post))) (blk b T' (pre ++ (us ++ post))) L L')
    (hX : X.length = k := by rfl) (hk : us.length = k := by rfl) (h1 : ∀ u ∈ us, u.oneCell' = true := by simp [Value.oneCell']) : Eff P E L ⟨d, .store T x y, t, ps, af, gd⟩ (stR L') := by
  have e : (pre ++ (X ++ post)).take pre.length ++ us ++ (pre ++ (X ++ post)).drop (pre.length + k) = pre ++ (us ++ post) := by
    rw [List.take_left, ← List.drop_drop, List.drop_left, ← hX, List.drop_left, List.append_assoc]
  rw [← e] at hd
  exact s_stA hs hx hv hd hk (by simp only [List.length_append]; omega) h1
end
theorem sepH_perm {L L' : List HProp} (h : L.Perm L') (f) (hf : sepL L f) : sepL L' f := sepL_perm h hf
/-- A list of parts as one part. -/
def allP (L : List HProp) : HProp := sepL L
section
variable {B w : World} {L M F : List HProp}
theorem Sat.pack (h : Sat B w (M ++ F)) : Sat B w (allP M :: F) := h.imp fun f hf => by
  obtain ⟨g, h, a, b, c, d⟩ := sepL_append.1 hf
  exact ⟨g, h, a, b, c, d⟩
theorem Sat.unpack (h : Sat B w (allP M :: F)) : Sat B w (M ++ F) := h.imp fun f hf => by
  obtain ⟨g, h, a, b, c, d⟩ := hf
  exact sepL_append.2 ⟨g, h, a, b, c, d⟩
end
end Go.Vc

namespace Go.Vc
section
variable {P : Program} {B w : World} {E : Env} {L L' : List HProp} {d : Option Tmp} {t T : TypeId} {ps : String} {af : Array Edge} {gd : Option (Nat × Bool)} {x y : Operand} {v u : Value}
/-- A beginning of a slice, at any address. -/
theorem e_slA {m c e k hi : Nat} {a : Addr} {h : Operand} {q : IntKind} (hu : P.underlying T = some (.slice e)) (hs : ∀ w, (sizeOf e).run P w = .ok k w) (hx : ev E x = .slice (some a) m c) (hh : ev E h = .int q (hi : Int)) (h2 : hi ≤ c) :
    Ev P E L ⟨d, .slice T x none (some h) none, t, ps, af, gd⟩ (.slice (some a) hi c) := fun _ w _ => by
  have hsl : (Instr.slice T (.slice (some a) m c) none (some (ev E h)) none).run P w = .ok (.slice (some a) hi c) w := by
    have hb : (Instr.sliceBounds true m c none (some (ev E h)) none).run P w = .ok (0, hi, c) w := by
      simp [Instr.sliceBounds, Instr.sliceBound, hh, asIntOf, h2]
    simp only [Instr.slice, Sem.run_bind, run_underlying hu, Result.andThen_ok, hb, hs, Sem.run_pure]
    simp [Addr.add]
  simp only [execOp, Instr.sliceAt, Sem.run_bind, run_underlying hu, Result.andThen_ok, hx, Option.map_none, Option.map_some, hsl, Sem.run_pure]
theorem putC_full : ∀ (us pre l : List Value), l.length = us.length → putC (pre ++ l) pre.length us = pre ++ us
  | [], pre, l, h => by have : l = [] := List.eq_nil_of_length_eq_zero h; subst this; rfl
  | u :: us, pre, [], h => by cases h
  | u :: us, pre, c :: l, h => by
    have e : (pre ++ c :: l).set pre.length u = (pre ++ [u]) ++ l := by simp
    have e2 : pre.length + 1 = (pre ++ [u]).length := by simp
    rw [putC, e, e2, putC_full us (pre ++ [u]) l (by simpa using h), List.append_assoc]
    rfl
/-- A new slice of one struct. -/
theorem s_bs1 {S e k : Nat} {z : Value} {us : List Value} (hu : P.underlying S = some (.slice e)) (hs : ∀ w, (sizeOf e).run P w = .ok k w) (hz : ∀ w, (zeroValue e).run P w = .ok z w) (hx : ev E x = .agg ⟨us⟩)
    (hk : us.length = k := by rfl) (h0 : Nat.beq k 0 = false := by rfl) (hm : Nat.ble k 16777216 = true := by rfl) : Eff P E L ⟨d, .buildSlice S 1 #[(0, x)], t, ps, af, gd⟩ (newS e us 1 1 L) := by
  refine s_bs (m := 1) (k := k) (cs := us) hu hs hz ?_ (by rw [Nat.one_mul]; exact h0) (by rw [Nat.one_mul]; exact hm)
  simp only [List.map_cons, List.map_nil, hx, Nat.one_mul]
  have hb : Nat.beq us.length k = true := by rw [hk]; exact Nat.beq_refl k
  have e := putC_full us [] ((List.range k).map (z.cells[· % z.cells.size]!)) (by simp [hk])
  simp [fillL, Value.cells, hk, Nat.beq_refl] at e ⊢
  exact e
end
end Go.Vc

namespace Go.Vc
variable {P : Program} {B : World} {n : Nat} {ops : Array Oper} {K : Kont} {E : Env} {L L' D D' Ls : List HProp}

/-! ### regions whose loud operations have several orders -/
inductive PT
  | e
  | q (i : Nat) (r : PT)
  | b (i : Nat) (r : PT) (m : PT)
def PT.heads : PT → List Nat
  | .b i _ m => i :: m.heads
  | _ => []
def PT.depth : PT → Nat
  | .e => 0
  | .q _ r => r.depth + 1
  | .b _ r m => Nat.max (r.depth + 1) m.depth
def ptB (ops : Array Oper) (fin : Option Nat) : Bool → Array Bool → PT → Bool
  | true, _, .e => true
  | false, listed, .e => (Region.ready .any ops listed).isEmpty
  | true, _, .q _ _ => false
  | false, listed, .q i r => Region.free .any ops listed i && (Region.ready .any ops listed).contains i && waits ops fin i && (fin != some i) && ptB ops fin false (listed.setIfInBounds i true) r
  | fl, listed, .b i r m => (fl || !(Region.ready .any ops listed).isEmpty && (Region.ready .any ops listed).all fun j => (i :: m.heads).contains j) && ptB ops fin false (listed.setIfInBounds i true) r && ptB ops fin true listed m
def GT (P : Program) (B : World) (n : Nat) (ops : Array Oper) (fin : Option Nat) (plan : PT) (K : Kont) (E : Env) (D Ls : List HProp) : Prop :=
  ∀ listed fuel a w, Region.noSelect ops = true → listed.size = ops.size → Clsd ops listed → ptB ops fin false listed plan = true → plan.depth ≤ fuel → RepA a n E → Sat B w (D ++ Ls) → wpAnyV P ops (lift B n K) (Sst B Ls fin) fuel listed a w
def Alt (P : Program) (B : World) (n : Nat) (ops : Array Oper) (fin : Option Nat) (i : Nat) (r : PT) (K : Kont) (E : Env) (D Ls : List HProp) : Prop :=
  ∀ listed fuel a w, Region.noSelect ops = true → listed.size = ops.size → Clsd ops listed → i ∈ Region.ready .any ops listed → ptB ops fin false (listed.setIfInBounds i true) r = true → r.depth ≤ fuel → RepA a n E → Sat B w (D ++ Ls) →
    wpOp P ops (lift B n K) i (fun a' w' => Sst B Ls fin (listed.setIfInBounds i true) w' ∧ wpAnyV P ops (lift B n K) (Sst B Ls fin) fuel (listed.setIfInBounds i true) a' w') a w
def Alts (P : Program) (B : World) (n : Nat) (ops : Array Oper) (fin : Option Nat) (K : Kont) (E : Env) (D Ls : List HProp) : PT → Prop
  | .b i r m => Alt P B n ops fin i r K E D Ls ∧ Alts P B n ops fin K E D Ls m
  | _ => True
theorem gt_draw {id : Nat} {plan : PT} {fin : Option Nat} (hm : P.follows .mixedOrders = true) (hs : Region.noSelect ops = true) (hp : ptB ops fin false (Array.replicate ops.size false) plan = true) (hl : Nat.ble plan.depth ops.size = true) (hd : Pick D L Ls)
    (h : GT P B n ops fin plan K E D Ls) : GC P B n (.region id ops true) K E L := fun a w r s =>
  wp_region_any hm (wpAny_of_V _ _ _ _ (h _ _ a _ hs (by simp) (fun j o _ hl => by rw [Array.getD_eq_getD_getElem?, Array.getElem?_replicate] at hl; split at hl <;> cases hl) hp (Nat.le_of_ble_eq_true hl) r ((drewS s).imp fun _ => hd.to)))
theorem gt_nil {fin : Option Nat} (h : K .normal E (D ++ Ls)) : GT P B n ops fin .e K E D Ls := fun listed fuel a w _ _ _ hp _ r s => by
  have hp' : Region.ready .any ops listed = [] := by simpa [ptB] using hp
  cases fuel with
  | zero => exact ⟨hp', E, _, r, s, h⟩
  | succ f => exact ⟨fun _ => ⟨E, _, r, s, h⟩, by rw [hp']; simp⟩
theorem gt_nil0 {fin : Option Nat} (h : K .normal E D) : GT P B n ops fin .e K E D [] := gt_nil (by rw [List.append_nil]; exact h)
section
variable {i : Nat} {rest : PT} {o : Oper} {v : Value} {fin : Option Nat}
theorem gt_ev (hi : ops[i]? = some o) (h : Ev P E Ls o v) (k : GT P B n ops fin rest K (updO E o.dst v) D Ls) (hw : wantedE ops E o = true := by rfl) (hd : dstB n o.dst = true := by rfl) : GT P B n ops fin (.q i rest) K E D Ls := by
  intro listed fuel a w hns hz hcl hp hf r s
  simp only [ptB, Bool.and_eq_true] at hp
  obtain ⟨⟨⟨⟨hp1, hp2⟩, hp3⟩, hp4⟩, hp5⟩ := hp
  obtain ⟨f, rfl⟩ : ∃ f, fuel = f + 1 := ⟨fuel - 1, by simp only [PT.depth] at hf; omega⟩
  have hr : i ∈ Region.ready .any ops listed := by simpa using hp2
  refine wpAnyV_first hi (Region.noSelect_spec hns) (lift_panic o.dst v) (sst_iff hp4) f listed a w hz hcl (Region.free_spec hi hp1) hr (.inl ⟨?_, fun listed' w' _ hc hl hS => ?_⟩) (.inr ⟨D, s⟩) (k _ f _ w hns (by simp [hz]) (clsd_set hcl hr) hp5 (by simp only [PT.depth] at hf; omega) (r.put hd v) s)
  · rw [r.yielded]; exact hw
  · rw [r.eval]; exact h B w' (sst_sat hp3 hc hl hS)
theorem gt_not (hi : ops[i]? = some o) (k : GT P B n ops fin rest K (updO E o.dst undef) D Ls) (hw : wantedE ops E o = false := by rfl) (hd : dstB n o.dst = true := by rfl) : GT P B n ops fin (.q i rest) K E D Ls := by
  intro listed fuel a w hns hz hcl hp hf r s
  simp only [ptB, Bool.and_eq_true] at hp
  obtain ⟨⟨⟨⟨hp1, hp2⟩, hp3⟩, hp4⟩, hp5⟩ := hp
  obtain ⟨f, rfl⟩ : ∃ f, fuel = f + 1 := ⟨fuel - 1, by simp only [PT.depth] at hf; omega⟩
  have hr : i ∈ Region.ready .any ops listed := by simpa using hp2
  refine wpAnyV_first hi (Region.noSelect_spec hns) (lift_panic o.dst undef) (sst_iff hp4) f listed a w hz hcl (Region.free_spec hi hp1) hr (.inr ⟨?_, rfl⟩) (.inr ⟨D, s⟩) (k _ f _ w hns (by simp [hz]) (clsd_set hcl hr) hp5 (by simp only [PT.depth] at hf; omega) (r.put hd undef) s)
  rw [r.yielded]; exact hw
theorem alts_mem {fin : Option Nat} {listed : Array Bool} {fuel : Nat} {a : Act} {w : World} (hns : Region.noSelect ops = true) (hz : listed.size = ops.size) (hcl : Clsd ops listed) (r : RepA a n E) (s : Sat B w (D ++ Ls)) : ∀ (p : PT), Alts P B n ops fin K E D Ls p → ptB ops fin true listed p = true → p.depth ≤ fuel + 1 → ∀ j ∈ p.heads, j ∈ Region.ready .any ops listed →
    wpOp P ops (lift B n K) j (fun a' w' => Sst B Ls fin (listed.setIfInBounds j true) w' ∧ wpAnyV P ops (lift B n K) (Sst B Ls fin) fuel (listed.setIfInBounds j true) a' w') a w
  | .e, _, _, _, j, hj, _ => by cases hj
  | .q _ _, _, hp, _, _, _, _ => by simp [ptB] at hp
  | .b i t m, hA, hp, hf, j, hj, hr => by
    simp only [ptB, Bool.true_or, Bool.true_and, Bool.and_eq_true] at hp
    have hf1 : t.depth ≤ fuel := by have := Nat.le_trans (Nat.le_max_left _ _) hf; omega
    have hf2 : m.depth ≤ fuel + 1 := Nat.le_trans (Nat.le_max_right _ _) hf
    by_cases e : j = i
    · subst e; exact hA.1 listed fuel a w hns hz hcl hr hp.1 hf1 r s
    · rcases List.mem_cons.1 hj with h | h
      · exact absurd h e
      · exact alts_mem hns hz hcl r s m hA.2 hp.2 hf2 j h hr
theorem gt_b {t m : PT} (h : Alts P B n ops fin K E D Ls (.b i t m)) : GT P B n ops fin (.b i t m) K E D Ls := by
  intro listed fuel a w hns hz hcl hp hf r s
  obtain ⟨f, rfl⟩ : ∃ f, fuel = f + 1 := ⟨fuel - 1, by have h1 : t.depth + 1 ≤ (PT.b i t m).depth := Nat.le_max_left _ _; omega⟩
  simp only [ptB, Bool.false_or, Bool.and_eq_true] at hp
  obtain ⟨⟨⟨hp0, hp1⟩, hp2⟩, hp3⟩ := hp
  have hall := List.all_eq_true.1 hp1
  have hp' : ptB ops fin true listed (.b i t m) = true := by simp [ptB, hp2, hp3]
  refine ⟨fun h0 => (by rw [h0] at hp0; cases hp0), fun j hj => ?_⟩
  exact alts_mem hns hz hcl r s (.b i t m) h hp' hf j (by simpa [PT.heads] using hall j hj) hj
theorem gt_b2 {i j : Nat} {t u : PT} (h1 : Alt P B n ops fin i t K E D Ls) (h2 : Alt P B n ops fin j u K E D Ls) : GT P B n ops fin (.b i t (.b j u .e)) K E D Ls := gt_b ⟨h1, h2, trivial⟩
theorem gt_b3 {i j k : Nat} {t u x : PT} (h1 : Alt P B n ops fin i t K E D Ls) (h2 : Alt P B n ops fin j u K E D Ls) (h3 : Alt P B n ops fin k x K E D Ls) : GT P B n ops fin (.b i t (.b j u (.b k x .e))) K E D Ls := gt_b ⟨h1, h2, h3, trivial⟩
theorem alt_eff {R : Value → List HProp → Prop} (hi : ops[i]? = some o) (h : Eff P E D o R) (k : ∀ v D', R v D' → GT P B n ops fin rest K (updO E o.dst v) D' Ls) (hw : wantedE ops E o = true := by rfl) (hd : dstB n o.dst = true := by rfl) : Alt P B n ops fin i rest K E D Ls := by
  intro listed fuel a w hns hz hcl hr hp hf r s
  unfold wpOp
  simp only [hi]
  rw [r.yielded, if_pos (show Region.wanted o (yieldedE ops E) = true from hw)]
  refine .inl ?_
  unfold Oper.wp
  rw [r.eval]
  exact upon_of (h B Ls w s) fun v w' ⟨D', hR, hs⟩ => ⟨.inr ⟨D', hs⟩, k v D' hR _ fuel _ w' hns (by simp [hz]) (clsd_set hcl hr) hp hf (r.put hd v) hs⟩
theorem alt_fin {R : Value → List HProp → Prop} (hi : ops[i]? = some o) (h : Eff P E (D ++ Ls) o R) (k : ∀ v D', R v D' → GT P B n ops (some i) rest K (updO E o.dst v) D' []) (hw : wantedE ops E o = true := by rfl) (hd : dstB n o.dst = true := by rfl) : Alt P B n ops (some i) i rest K E D Ls := by
  intro listed fuel a w hns hz hcl hr hp hf r s
  unfold wpOp
  simp only [hi]
  rw [r.yielded, if_pos (show Region.wanted o (yieldedE ops E) = true from hw)]
  refine .inl ?_
  unfold Oper.wp
  rw [r.eval]
  have hlt : i < listed.size := by rw [hz]; exact (Array.getElem?_eq_some_iff.1 hi).1
  have hl : (listed.setIfInBounds i true).getD i false = true := by simp [Array.getD_eq_getD_getElem?, hlt]
  refine upon_of (h B [] w (by simpa using s)) fun v w' ⟨D', hR, hs⟩ => ⟨.inl ⟨i, rfl, hl⟩, ?_⟩
  exact wpAnyV_congr (q := i) (fun listed w hl' _ => .inl ⟨i, rfl, hl'⟩) _ _ _ _ hl (k v D' hR _ fuel _ w' hns (by simp [hz]) (clsd_set hcl hr) hp hf (r.put hd v) (by simpa using hs))
theorem alt_evf (hi : ops[i]? = some o) (h : Ev P E (D ++ Ls) o v) (k : GT P B n ops fin rest K (updO E o.dst v) D Ls) (hw : wantedE ops E o = true := by rfl) (hd : dstB n o.dst = true := by rfl) : Alt P B n ops fin i rest K E D Ls := by
  intro listed fuel a w hns hz hcl hr hp hf r s
  unfold wpOp
  simp only [hi]
  rw [r.yielded, if_pos (show Region.wanted o (yieldedE ops E) = true from hw)]
  refine .inl ?_
  unfold Oper.wp
  rw [r.eval, h B w s]
  exact ⟨.inr ⟨D, s⟩, k _ fuel _ w hns (by simp [hz]) (clsd_set hcl hr) hp hf (r.put hd v) s⟩
theorem alt_notf (hi : ops[i]? = some o) (k : GT P B n ops fin rest K (updO E o.dst undef) D Ls) (hw : wantedE ops E o = false := by rfl) (hd : dstB n o.dst = true := by rfl) : Alt P B n ops fin i rest K E D Ls := by
  intro listed fuel a w hns hz hcl hr hp hf r s
  unfold wpOp
  simp only [hi]
  rw [r.yielded, if_neg (show ¬ Region.wanted o (yieldedE ops E) = true by rw [show Region.wanted o (yieldedE ops E) = false from hw]; simp)]
  exact ⟨.inr ⟨D, s⟩, k _ fuel _ w hns (by simp [hz]) (clsd_set hcl hr) hp hf (r.put hd undef) s⟩
theorem gt_eff {R : Value → List HProp → Prop} (hi : ops[i]? = some o) (h : Eff P E D o R) (k : ∀ v D', R v D' → GT P B n ops fin rest K (updO E o.dst v) D' Ls) (hw : wantedE ops E o = true := by rfl) (hd : dstB n o.dst = true := by rfl) : GT P B n ops fin (.b i rest .e) K E D Ls := gt_b ⟨alt_eff hi h k hw hd, trivial⟩
theorem gt_fin {R : Value → List HProp → Prop} (hi : ops[i]? = some o) (h : Eff P E (D ++ Ls) o R) (k : ∀ v D', R v D' → GT P B n ops (some i) rest K (updO E o.dst v) D' []) (hw : wantedE ops E o = true := by rfl) (hd : dstB n o.dst = true := by rfl) : GT P B n ops (some i) (.b i rest .e) K E D Ls := gt_b ⟨alt_fin hi h k hw hd, trivial⟩
theorem gt_evf (hi : ops[i]? = some o) (h : Ev P E (D ++ Ls) o v) (k : GT P B n ops fin rest K (updO E o.dst v) D Ls) (hw : wantedE ops E o = true := by rfl) (hd : dstB n o.dst = true := by rfl) : GT P B n ops fin (.b i rest .e) K E D Ls := gt_b ⟨alt_evf hi h k hw hd, trivial⟩
theorem gt_notf (hi : ops[i]? = some o) (k : GT P B n ops fin rest K (updO E o.dst undef) D Ls) (hw : wantedE ops E o = false := by rfl) (hd : dstB n o.dst = true := by rfl) : GT P B n ops fin (.b i rest .e) K E D Ls := gt_b ⟨alt_notf hi k hw hd, trivial⟩
theorem gt_slot (d : Nat) (v : Value) (h : GT P B n ops fin rest K (upd E d v) D Ls) (hd : E d = v) : GT P B n ops fin rest K E D Ls := by
  rw [upd_id hd] at h; exact h
theorem gt_bool (d : Nat) {b : Bool} (hd : E d = .bool b) (ht : b = true → GT P B n ops fin rest K (upd E d (.bool true)) D Ls) (hf : b = false → GT P B n ops fin rest K (upd E d (.bool false)) D Ls) : GT P B n ops fin rest K E D Ls := by
  cases b with
  | true => exact gt_slot d _ (ht rfl) hd
  | false => exact gt_slot d _ (hf rfl) hd
theorem gt_dec (d : Nat) {p : Prop} {hp : Decidable p} (hd : E d = .bool (decide p)) (ht : p → GT P B n ops fin rest K (upd E d (.bool true)) D Ls) (hf : ¬ p → GT P B n ops fin rest K (upd E d (.bool false)) D Ls) : GT P B n ops fin rest K E D Ls :=
  gt_bool d hd (fun h => ht (of_decide_eq_true h)) (fun h => hf (of_decide_eq_false h))
theorem gt_ndec (d : Nat) {p : Prop} {hp : Decidable p} (hd : E d = .bool (!decide p)) (ht : ¬ p → GT P B n ops fin rest K (upd E d (.bool true)) D Ls) (hf : p → GT P B n ops fin rest K (upd E d (.bool false)) D Ls) : GT P B n ops fin rest K E D Ls :=
  gt_bool d hd (fun h => ht (by simpa using h)) (fun h => hf (by simpa using h))
theorem gt_imp (h : ∀ w, Sat B w (D ++ Ls) → Sat B w (D' ++ Ls)) (k : GT P B n ops fin rest K E D' Ls) : GT P B n ops fin rest K E D Ls := fun listed fuel a w h1 h2 h3 h4 h5 r s => k listed fuel a w h1 h2 h3 h4 h5 r (h w s)
end
end Go.Vc

namespace Go.Vc
section
variable {P : Program} {B w : World} {E : Env} {L L' : List HProp} {d : Option Tmp} {t T : TypeId} {ps : String} {af : Array Edge} {gd : Option (Nat × Bool)} {x y : Operand} {v u : Value}
theorem putC_mid : ∀ (us pre l1 l2 : List Value), l1.length = us.length → putC (pre ++ (l1 ++ l2)) pre.length us = (pre ++ us) ++ l2
  | [], pre, l1, l2, h => by have : l1 = [] := List.eq_nil_of_length_eq_zero h; subst this; simp [putC]
  | u :: us, pre, [], l2, h => by cases h
  | u :: us, pre, c :: l1, l2, h => by
    have e : (pre ++ ((c :: l1) ++ l2)).set pre.length u = (pre ++ [u]) ++ (l1 ++ l2) := by simp
    have e2 : pre.length + 1 = (pre ++ [u]).length := by simp
    rw [putC, e, e2, putC_mid us (pre ++ [u]) l1 l2 (by simpa using h)]
    simp
theorem fill_all {k : Nat} : ∀ (uss : List (List Value)) (j : Nat) (pre l : List Value), pre.length = j * k → l.length = uss.length * k → (∀ us ∈ uss, us.length = k) → fillL (fun i => some (i * k, k)) (pre ++ l) ((uss.zipIdx j).map fun p => (p.2, Value.agg ⟨p.1⟩)) = some (pre ++ uss.flatten)
  | [], j, pre, l, h1, h2, h3 => by
    have : l = [] := List.eq_nil_of_length_eq_zero (by simpa using h2)
    subst this; simp [fillL]
  | us :: uss, j, pre, l, h1, h2, h3 => by
    have hk : us.length = k := h3 us (List.mem_cons_self)
    have hl : k ≤ l.length := by rw [h2, List.length_cons, Nat.add_mul]; omega
    obtain ⟨l1, l2, rfl, hl1⟩ : ∃ l1 l2, l = l1 ++ l2 ∧ l1.length = k := ⟨l.take k, l.drop k, (List.take_append_drop k l).symm, by rw [List.length_take]; omega⟩
    have hp := putC_mid us pre l1 l2 (by omega)
    have ih := fill_all uss (j + 1) (pre ++ us) l2 (by rw [List.length_append, h1, hk, Nat.add_mul]; omega) (by rw [List.length_append, List.length_cons, Nat.add_mul] at h2; omega) (fun q hq => h3 q (List.mem_cons_of_mem _ hq))
    simp only [List.zipIdx_cons, List.map_cons, fillL]
    have hc : (Nat.beq (Value.agg ⟨us⟩).cells.size k && Nat.ble (j * k + k) (pre ++ (l1 ++ l2)).length) = true := by
      rw [show (Value.agg ⟨us⟩).cells.size = k from hk, Nat.beq_refl, Bool.true_and]
      exact Nat.ble_eq ▸ (by simp only [List.length_append]; omega : j * k + k ≤ (pre ++ (l1 ++ l2)).length)
    rw [hc]
    simp only [if_true]
    rw [show (Value.agg ⟨us⟩).cells.toList = us from rfl, ← h1, hp, ih]
    simp
/-- A new slice of structs. -/
theorem s_bss {S e k m : Nat} {z : Value} {uss : List (List Value)} {parts : Array (Nat × Operand)} (hu : P.underlying S = some (.slice e)) (hs : ∀ w, (sizeOf e).run P w = .ok k w) (hz : ∀ w, (zeroValue e).run P w = .ok z w)
    (hx : parts.toList.map (fun p => (p.1, ev E p.2)) = (uss.zipIdx 0).map fun p => (p.2, Value.agg ⟨p.1⟩)) (hm : uss.length = m := by rfl) (hk : ∀ us ∈ uss, us.length = k := by simp) (h0 : Nat.beq (m * k) 0 = false := by rfl) (h1 : Nat.ble (m * k) 16777216 = true := by rfl) :
    Eff P E L ⟨d, .buildSlice S m parts, t, ps, af, gd⟩ (newS e uss.flatten m m L) := by
  refine s_bs (m := m) (k := k) (cs := uss.flatten) hu hs hz ?_ h0 h1
  rw [hx]
  exact fill_all uss 0 [] _ (by simp) (by simp [hm]) hk
end
end Go.Vc
