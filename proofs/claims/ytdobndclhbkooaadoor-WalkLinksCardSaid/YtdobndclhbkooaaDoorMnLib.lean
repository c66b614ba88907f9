/- The logic of blocks: a world's heap as a list of blocks, and what one operation, one block of code, one call does to it. Plain lemmas over any program. A region whose order is drawn: one walk in a given order serves every order, where reads, new blocks and one chain of effects stand side by side. Conditions: the pairs of operations are apart or ordered, which a computed check says. The rules: code, regions, one operation at a time, over a world known as a list of blocks. Plain lemmas over any program. Single operations: what each yields in a world known as a list of blocks. Plain lemmas over any program. Operations that write or make memory, and calls. Plain lemmas over any program. Slices that are owned, appended to, cut; maps; strings and bytes. Plain lemmas over any program. More operations: slices against nil, function values, conversions. The logic's words are closed to the unifier from here on. -/
import Derived.WalkKit
import Derived.Deep.Quiet
import Derived.KernelRfl
import Derived.Lib.Strings
import Derived.Lib.Bytealg
import Derived.Lib.SliceRun
import Derived.Laws.ResultCell
namespace Go.SL
open Go.RowKit

/-! ### Heaps as lists of blocks -/
abbrev Blk := Nat × Obj
abbrev Chunk := List Blk

structure Gh where
  os : Os
  tape : Nat → Question → Nat
  output : Array (Nat × ByteArray)
  size : Nat

structure Sat (g : Gh) (L : List Chunk) (w : World) : Prop where
  os : w.os = g.os
  tape : w.tape = g.tape
  output : w.output = g.output
  size : g.size ≤ w.heap.size
  nodup : (L.flatten.map Prod.fst).Nodup
  holds : ∀ x ∈ L.flatten, w.heap[x.1]? = some x.2

theorem Sat.lt {g : Gh} {L : List Chunk} {w : World} (h : Sat g L w) {x : Blk} (hx : x ∈ L.flatten) : x.1 < w.heap.size := by
  have := h.holds x hx
  rcases Nat.lt_or_ge x.1 w.heap.size with h' | h'
  · exact h'
  · simp [Array.getElem?_eq_none h'] at this

/-- A part of what is known, in whatever order. -/
theorem Sat.sub {g : Gh} {L L' : List Chunk} {w : World} (h : Sat g L w) (R : Chunk) (hp : L.flatten.Perm (L'.flatten ++ R)) : Sat g L' w := by
  refine ⟨h.os, h.tape, h.output, h.size, ?_, fun x hx => h.holds x (hp.symm.subset (List.mem_append_left _ hx))⟩
  have h1 : ((L'.flatten ++ R).map Prod.fst).Nodup := ((hp.map Prod.fst).nodup_iff).1 h.nodup
  rw [List.map_append] at h1
  exact (List.nodup_append.1 h1).1

theorem Sat.perm {g : Gh} {L L' : List Chunk} {w : World} (h : Sat g L w) (hp : L.Perm L') : Sat g L' w :=
  h.sub [] (by simpa using hp.flatten)

theorem Sat.tail {g : Gh} {L : List Chunk} {c : Chunk} {w : World} (h : Sat g (c :: L) w) : Sat g L w :=
  h.sub c (by simpa using List.perm_append_comm)

theorem Sat.join {g : Gh} {L : List Chunk} {c d : Chunk} {w : World} : Sat g (c :: d :: L) w ↔ Sat g ((c ++ d) :: L) w := by
  constructor <;> intro h <;> exact ⟨h.os, h.tape, h.output, h.size, by simpa using h.nodup, by simpa using h.holds⟩

theorem Sat.nil {g : Gh} {L : List Chunk} {w : World} : Sat g ([] :: L) w ↔ Sat g L w := by
  constructor <;> intro h <;> exact ⟨h.os, h.tape, h.output, h.size, by simpa using h.nodup, by simpa using h.holds⟩

theorem Sat.flat {g : Gh} {L : List Chunk} {w : World} : Sat g [L.flatten] w ↔ Sat g L w := by
  constructor <;> intro h <;> exact ⟨h.os, h.tape, h.output, h.size, by simpa using h.nodup, by simpa using h.holds⟩

theorem Sat.flatApp {g : Gh} {A L : List Chunk} {w : World} : Sat g (A ++ [L.flatten]) w ↔ Sat g (A ++ L) w := by
  constructor <;> intro h <;> exact ⟨h.os, h.tape, h.output, h.size, by simpa using h.nodup, by simpa using h.holds⟩

theorem Sat.alloc {g : Gh} {L : List Chunk} {w : World} (h : Sat g L w) (o : Obj) : Sat g ([(w.heap.size, o)] :: L) (w.alloc o) := by
  refine ⟨h.os, h.tape, h.output, Nat.le_trans h.size (by simp), ?_, ?_⟩
  · simp only [List.flatten_cons, List.cons_append, List.nil_append, List.map_cons, List.nodup_cons]
    refine ⟨fun hm => ?_, h.nodup⟩
    obtain ⟨x, hx, he⟩ := List.mem_map.1 hm
    have := h.lt hx
    omega
  · intro x hx
    simp only [List.flatten_cons, List.cons_append, List.nil_append, List.mem_cons] at hx
    rcases hx with rfl | hx
    · show (w.heap.push o)[w.heap.size]? = _
      simp
    · have := h.lt hx
      show (w.heap.push o)[x.1]? = _
      rw [Array.getElem?_push, if_neg (by omega)]
      exact h.holds x hx

theorem Sat.drew {g : Gh} {L : List Chunk} {w : World} (h : Sat g L w) : Sat g L w.drew := ⟨h.os, h.tape, h.output, h.size, h.nodup, h.holds⟩
theorem Sat.drewN {g : Gh} {L : List Chunk} {w : World} (h : Sat g L w) : Sat g L { w with drawn := w.drawn + 1 } := h.drew

/-- One block is written anew. -/
theorem Sat.put {g : Gh} {L : List Chunk} {w : World} {b : Nat} {o o' : Obj} (h : Sat g ([(b, o)] :: L) w) {w' : World}
    (ho : w'.os = w.os) (ht : w'.tape = w.tape) (hu : w'.output = w.output) (hs : w'.heap = w.heap.setIfInBounds b o') : Sat g ([(b, o')] :: L) w' := by
  have hb : b < w.heap.size := h.lt (x := (b, o)) (by simp)
  have hn := h.nodup
  refine ⟨ho.trans h.os, ht.trans h.tape, hu.trans h.output, by rw [hs]; simpa using h.size, by simpa using hn, ?_⟩
  intro x hx
  simp only [List.flatten_cons, List.cons_append, List.nil_append, List.mem_cons] at hx
  rw [hs]
  rcases hx with rfl | hx
  · simp [hb]
  · have hne : b ≠ x.1 := by
      intro e
      simp only [List.flatten_cons, List.cons_append, List.nil_append, List.map_cons, List.nodup_cons] at hn
      exact hn.1 (e ▸ List.mem_map.2 ⟨x, hx, rfl⟩)
    rw [Array.getElem?_setIfInBounds_ne hne]
    exact h.holds x (by simpa using Or.inr hx)

theorem Sat.at {g : Gh} {L : List Chunk} {w : World} {b : Nat} {o : Obj} (h : Sat g L w) (hm : (b, o) ∈ L.flatten) : w.heap[b]? = some o := h.holds _ hm

/-! ### Finding blocks and chunks -/

/-- A chunk stands in the list: the rest, and the list with another chunk in its place. -/
class Fnd (c : Chunk) (L : List Chunk) (rest : outParam (List Chunk)) (up : outParam (Chunk → List Chunk)) : Prop where
  perm : L.Perm (c :: rest)
  put : ∀ d, (up d).Perm (d :: rest)

instance Fnd.here (c : Chunk) (L : List Chunk) : Fnd c (c :: L) L (fun d => d :: L) := ⟨.refl _, fun _ => .refl _⟩
instance Fnd.there (c e : Chunk) (L rest : List Chunk) (up : Chunk → List Chunk) [h : Fnd c L rest up] : Fnd c (e :: L) (e :: rest) (fun d => e :: up d) :=
  ⟨(h.perm.cons e).trans (.swap _ _ _), fun d => ((h.put d).cons e).trans (.swap _ _ _)⟩

/-- A block stands in the list. -/
class FndB (b : Nat) (o : outParam Obj) (L : List Chunk) (rest : outParam (List Chunk)) (up : outParam (Obj → List Chunk)) : Prop where
  perm : L.Perm ([(b, o)] :: rest)
  put : ∀ o', (up o').Perm ([(b, o')] :: rest)

instance FndB.here (b : Nat) (o : Obj) (L : List Chunk) : FndB b o ([(b, o)] :: L) L (fun o' => [(b, o')] :: L) := ⟨.refl _, fun _ => .refl _⟩
instance FndB.there (b : Nat) (o : Obj) (e : Chunk) (L rest : List Chunk) (up : Obj → List Chunk) [h : FndB b o L rest up] : FndB b o (e :: L) (e :: rest) (fun o' => e :: up o') :=
  ⟨(h.perm.cons e).trans (.swap _ _ _), fun d => ((h.put d).cons e).trans (.swap _ _ _)⟩

/-- A block may be read: it stands in the list, or it is known to lie in a chunk of it. -/
class InC (b : Nat) (o : outParam Obj) (c : Chunk) : Prop where
  mem : (b, o) ∈ c
class FndR (b : Nat) (o : outParam Obj) (L : List Chunk) : Prop where
  mem : (b, o) ∈ L.flatten
instance FndR.here (b : Nat) (o : Obj) (L : List Chunk) : FndR b o ([(b, o)] :: L) := ⟨by simp⟩
instance FndR.inC (b : Nat) (o : Obj) (c : Chunk) (L : List Chunk) [h : InC b o c] : FndR b o (c :: L) := ⟨by simp [h.mem]⟩
instance FndR.there (b : Nat) (o : Obj) (e : Chunk) (L : List Chunk) [h : FndR b o L] : FndR b o (e :: L) := ⟨by simpa using Or.inr (by simpa using h.mem)⟩

/-- Several chunks stand in the list. -/
class Take (As : List Chunk) (L : List Chunk) (rest : outParam (List Chunk)) : Prop where
  perm : L.Perm (As ++ rest)
instance Take.none (L : List Chunk) : Take [] L L := ⟨.refl _⟩
instance Take.one (A : Chunk) (As L L1 rest : List Chunk) (up : Chunk → List Chunk) [h : Fnd A L L1 up] [k : Take As L1 rest] : Take (A :: As) L rest :=
  ⟨h.perm.trans (k.perm.cons A)⟩

instance Take.nilApp (As L rest : List Chunk) [h : Take As L rest] : Take ([] ++ As) L rest := ⟨h.perm⟩
instance Take.consApp (A : Chunk) (Bs As L rest : List Chunk) [h : Take (A :: (Bs ++ As)) L rest] : Take ((A :: Bs) ++ As) L rest := ⟨h.perm⟩

/-! ### Frames -/
def look : List (Nat × Value) → Nat → Option Value
  | [], _ => none
  | (k, v) :: r, t => bif Nat.beq k t then some v else look r t

def evF (fr : List (Nat × Value)) : Operand → Option Value
  | .tmp t => look fr t
  | .const v => some v
  | .global g => some (.pointer (some ⟨g, 0, none⟩))
  | .func f => some (.func (.func f) #[] #[])

structure FrOk (n : Nat) (fr : List (Nat × Value)) (a : Act) : Prop where
  sz : a.tmps.size = n
  df : a.defers = []
  fr : ∀ t v, look fr t = some v → a.tmps[t]? = some v

theorem FrOk.ev {n : Nat} {fr : List (Nat × Value)} {a : Act} (h : FrOk n fr a) {x : Operand} {v : Value} (hx : evF fr x = some v) : a.eval x = v := by
  cases x with
  | tmp t => have := h.fr t v hx; simp [Act.eval, Array.getD_eq_getD_getElem?, this]
  | const c => simp [evF] at hx; exact hx
  | global g => simp [evF] at hx; exact hx
  | func f => simp [evF] at hx; exact hx

theorem look_cons {k : Nat} {v : Value} {fr : List (Nat × Value)} {t : Nat} : look ((k, v) :: fr) t = if k = t then some v else look fr t := by
  simp only [look]
  by_cases h : k = t
  · subst h; simp
  · have : Nat.beq k t = false := by
      cases hb : Nat.beq k t with
      | false => rfl
      | true => exact absurd (Nat.eq_of_beq_eq_true hb) h
    simp [this, h]

theorem FrOk.put {n : Nat} {fr : List (Nat × Value)} {a : Act} (h : FrOk n fr a) {d : Nat} (hd : d < n) (v : Value) : FrOk n ((d, v) :: fr) (a.put (some d) v) := by
  refine ⟨by simp [Act.put, h.sz], h.df, fun t u hu => ?_⟩
  rw [look_cons] at hu
  by_cases e : d = t
  · subst e
    simp only [if_true] at hu
    cases hu
    simp [Act.put, h.sz, hd]
  · simp only [if_neg e] at hu
    simp only [Act.put]
    rw [Array.getElem?_setIfInBounds_ne e]
    exact h.fr t u hu

theorem FrOk.putB {n : Nat} {fr : List (Nat × Value)} {a : Act} (h : FrOk n fr a) {d : Nat} (hd : Nat.blt d n = true) (v : Value) : FrOk n ((d, v) :: fr) (a.put (some d) v) := h.put (by simpa [Nat.blt_eq] using hd) v

/-- The frame with a slot set; 'none': nothing is set. -/
def setd (fr : List (Nat × Value)) : Option Tmp → Value → List (Nat × Value)
  | some d, v => (d, v) :: fr
  | none, _ => fr
def dstLt (n : Nat) : Option Tmp → Bool
  | some d => Nat.blt d n
  | none => true
theorem FrOk.setd {n : Nat} {fr : List (Nat × Value)} {a : Act} (h : FrOk n fr a) {d : Option Tmp} (hd : dstLt n d = true) (v : Value) : FrOk n (setd fr d v) (a.put d v) := by
  cases d with
  | none => exact h
  | some d => exact h.put (by simpa [dstLt, Nat.blt_eq] using hd) v

/-- The frame says no less than another one. -/
inductive FrSub (fr : List (Nat × Value)) : List (Nat × Value) → Prop
  | nil : FrSub fr []
  | cons {t : Nat} {v : Value} {fr' : List (Nat × Value)} : look fr t = some v → FrSub fr fr' → FrSub fr ((t, v) :: fr')
theorem FrSub.look {fr fr' : List (Nat × Value)} (h : FrSub fr fr') : ∀ t v, look fr' t = some v → look fr t = some v := by
  induction h with
  | nil => intro t v h; simp [SL.look] at h
  | cons hl _ ih =>
    intro t' v' h
    rw [look_cons] at h
    split at h
    · rename_i e; subst e; cases h; exact hl
    · exact ih _ _ h
theorem FrOk.mono {n : Nat} {fr fr' : List (Nat × Value)} {a : Act} (h : FrOk n fr a) (hs : FrSub fr fr') : FrOk n fr' a :=
  ⟨h.sz, h.df, fun t v hv => h.fr t v (hs.look t v hv)⟩

structure St (g : Gh) (n : Nat) (fr : List (Nat × Value)) (L : List Chunk) (a : Act) (w : World) : Prop where
  fr : FrOk n fr a
  sat : Sat g L w

end Go.SL

namespace Go.SL
open Go.RowKit

inductive Knd where
  | stab | read | alloc | hard
  deriving DecidableEq

/-- The world has new blocks at most. -/
def Gr (w w' : World) : Prop := Below w.heap.size w w'
theorem Gr.refl (w : World) : Gr w w := Below.refl _ _
theorem Gr.trans {a b c : World} (h : Gr a b) (k : Gr b c) : Gr a c := Below.trans h (Below.mono k h.size)

section
variable (P : Program) (ops : Array Oper) (knd : Nat → Knd) (C : World → Prop) (Q : Exit → Act → World → Prop)

def akK (o : Oper) (K : Act → World → Prop) (a : Act) (w : World) : Knd → Prop
  | .stab => ∃ v, (∀ w', C w' → (execOp a.eval o).run P w' = .ok (.value v) w') ∧ K (a.put o.dst v) w
  | .read => ∃ v, (∀ w', Gr w w' → (execOp a.eval o).run P w' = .ok (.value v) w') ∧ K (a.put o.dst v) w
  | .alloc => o.wp P a w (fun a' w' => Gr w w' ∧ K a' w') Q
  | .hard => o.wp P a w (fun a' w' => C w' ∧ K a' w') Q

/-- One operation of the walk. -/
def ak (i : Nat) (K : Act → World → Prop) (a : Act) (w : World) : Prop :=
  match ops[i]? with
  | none => False
  | some o => if Region.wanted o (yielded ops a.tmps) then akK P C Q o K a w (knd i) else K (a.put o.dst undef) w

def wk : List Nat → Act → World → Prop
  | [], a, w => Q .normal a w
  | i :: r, a, w => ak P ops knd C Q i (wk r) a w

variable {P ops knd C Q}

theorem akK_mono {o : Oper} {K K' : Act → World → Prop} {a : Act} {w : World} (h : ∀ a w, K a w → K' a w) : ∀ k, akK P C Q o K a w k → akK P C Q o K' a w k
  | .stab, ⟨v, h1, h2⟩ => ⟨v, h1, h _ _ h2⟩
  | .read, ⟨v, h1, h2⟩ => ⟨v, h1, h _ _ h2⟩
  | .alloc, h1 => Oper.wp_mono (fun _ _ h2 => ⟨h2.1, h _ _ h2.2⟩) h1
  | .hard, h1 => Oper.wp_mono (fun _ _ h2 => ⟨h2.1, h _ _ h2.2⟩) h1

theorem ak_mono {i : Nat} {K K' : Act → World → Prop} {a : Act} {w : World} (h : ∀ a w, K a w → K' a w) (hh : ak P ops knd C Q i K a w) : ak P ops knd C Q i K' a w := by
  unfold ak at *
  split
  · rename_i ho; simp [ho] at hh
  · rename_i o ho
    simp only [ho] at hh
    split
    · rename_i hw; simp only [hw, if_true] at hh; exact akK_mono h _ hh
    · rename_i hw; simp only [hw] at hh; exact h _ _ hh

def compat : Knd → Knd → Bool
  | .stab, _ => true
  | .read, .stab => true
  | .read, .read => true
  | .read, .alloc => true
  | .read, .hard => false
  | _, _ => false

theorem swap {k j : Nat} {ok oj : Oper} (hk : ops[k]? = some ok) (hj : ops[j]? = some oj) (hap : ok.apart ops oj = true) (hc : compat (knd k) (knd j) = true)
    (hsk : ∀ cs b, ok.op ≠ .select cs b) (hsj : ∀ cs b, oj.op ≠ .select cs b) (hQ : ∀ c a d v w, Q (.panic c) (a.put d v) w → Q (.panic c) a w)
    {K : Act → World → Prop} {a : Act} {w : World} (h : ak P ops knd C Q k (ak P ops knd C Q j K) a w) : ak P ops knd C Q j (ak P ops knd C Q k K) a w := by
  obtain ⟨h1, h2, h3⟩ := Oper.apart_spec hap
  -- the value that k yields, and how long it does
  have key : ∃ v, (∀ w', (Gr w w' ∨ (C w' ∧ knd j = .hard)) → ∀ a', execOp a'.eval ok = execOp a.eval ok → Region.wanted ok (yielded ops a'.tmps) = Region.wanted ok (yielded ops a.tmps) →
        ∀ K' : Act → World → Prop, K' (a'.put ok.dst v) w' → ak P ops knd C Q k K' a' w') ∧ ak P ops knd C Q j K (a.put ok.dst v) w := by
    unfold ak at h ⊢
    simp only [hk, hj] at h ⊢
    by_cases hw : Region.wanted ok (yielded ops a.tmps) = true
    · simp only [hw, if_true] at h
      cases hkk : knd k with
      | stab =>
        rw [hkk] at h
        obtain ⟨v, hv, hK⟩ := h
        refine ⟨v, fun w' hw' a' he hwa K' hK' => ?_, hK⟩
        rw [hwa, hw]
        simp only [if_true]
        exact ⟨v, fun w'' hC => by rw [he]; exact hv w'' hC, hK'⟩
      | read =>
        rw [hkk] at h hc
        obtain ⟨v, hv, hK⟩ := h
        refine ⟨v, fun w' hw' a' he hwa K' hK' => ?_, hK⟩
        rw [hwa, hw]
        simp only [if_true]
        rcases hw' with hw' | ⟨_, hj'⟩
        · exact ⟨v, fun w'' hG => by rw [he]; exact hv w'' (hw'.trans hG), hK'⟩
        · rw [hj'] at hc; simp [compat] at hc
      | alloc => rw [hkk] at hc; simp [compat] at hc
      | hard => rw [hkk] at hc; simp [compat] at hc
    · simp only [hw] at h
      refine ⟨undef, fun w' hw' a' he hwa K' hK' => ?_, h⟩
      rw [hwa, if_neg hw]
      exact hK'
  obtain ⟨v, hkey, hK⟩ := key
  have same : ∀ (u : Value), execOp (a.put oj.dst u).eval ok = execOp a.eval ok ∧ Region.wanted ok (yielded ops (a.put oj.dst u).tmps) = Region.wanted ok (yielded ops a.tmps) :=
    fun u => ⟨execOp_put ok hsk a oj.dst u h3, wanted_put ok a oj.dst u h3⟩
  have sameD : ∀ (u : Value) (d : Deferred), execOp (({ a with defers := d :: a.defers } : Act).put oj.dst u).eval ok = execOp a.eval ok ∧
      Region.wanted ok (yielded ops (({ a with defers := d :: a.defers } : Act).put oj.dst u).tmps) = Region.wanted ok (yielded ops a.tmps) :=
    fun u d => ⟨(execOp_put ok hsk ({ a with defers := d :: a.defers } : Act) oj.dst u h3).trans rfl, (wanted_put ok ({ a with defers := d :: a.defers } : Act) oj.dst u h3).trans rfl⟩
  have eff : ∀ {G : World → Prop}, (∀ w', G w' → Gr w w' ∨ (C w' ∧ knd j = .hard)) → oj.wp P (a.put ok.dst v) w (fun a' w' => G w' ∧ K a' w') Q →
      oj.wp P a w (fun a' w' => G w' ∧ ak P ops knd C Q k K a' w') Q := by
    intro G hG h
    unfold Oper.wp at *
    rw [execOp_put oj hsj a ok.dst v h1] at h
    generalize (execOp a.eval oj).run P w = r at *
    cases r with
    | ok n w' =>
      cases n <;> simp only [Oper.upon] at h ⊢
      case value u => exact ⟨h.1, hkey w' (hG _ h.1) _ (same u).1 (same u).2 _ (by rw [← Act.put_comm a v u h2]; exact h.2)⟩
      case skip => exact ⟨h.1, hkey w' (hG _ h.1) _ (same _).1 (same _).2 _ (by rw [← Act.put_comm a v undef h2]; exact h.2)⟩
      case defer d =>
        refine ⟨h.1, hkey w' (hG _ h.1) _ (sameD _ d).1 (sameD _ d).2 _ ?_⟩
        rw [← Act.put_comm _ v undef h2, ← Act.put_defers]
        exact h.2
      case enter f args =>
        refine Calls.mono h fun e w'' he => ?_
        cases e with
        | returned u => exact ⟨he.1, hkey w'' (hG _ he.1) _ (same u).1 (same u).2 _ (by rw [← Act.put_comm a v u h2]; exact he.2)⟩
        | panicked c => exact hQ _ _ _ _ _ he
        | outgrown => exact he
      case row row args => exact Rows.mono h fun u w'' he => ⟨he.1, hkey w'' (hG _ he.1) _ (same u).1 (same u).2 _ (by rw [← Act.put_comm a v u h2]; exact he.2)⟩
    | halt x w' =>
      cases x <;> simp only [Oper.upon] at h ⊢
      case panic u => exact hQ _ _ _ _ _ h
  unfold ak at hK
  simp only [hj] at hK
  rw [wanted_put oj a ok.dst v h1] at hK
  conv => unfold ak
  simp only [hj]
  by_cases hw : Region.wanted oj (yielded ops a.tmps) = true
  · simp only [hw, if_true] at hK ⊢
    cases hjj : knd j with
    | stab =>
      rw [hjj] at hK
      obtain ⟨u, hu, hK⟩ := hK
      refine ⟨u, fun w' hC => by rw [← execOp_put oj hsj a ok.dst v h1]; exact hu w' hC, ?_⟩
      exact hkey w (.inl (Gr.refl _)) _ (same u).1 (same u).2 _ (by rw [← Act.put_comm a v u h2]; exact hK)
    | read =>
      rw [hjj] at hK
      obtain ⟨u, hu, hK⟩ := hK
      refine ⟨u, fun w' hC => by rw [← execOp_put oj hsj a ok.dst v h1]; exact hu w' hC, ?_⟩
      exact hkey w (.inl (Gr.refl _)) _ (same u).1 (same u).2 _ (by rw [← Act.put_comm a v u h2]; exact hK)
    | alloc => rw [hjj] at hK; exact eff (fun w' hG => .inl hG) hK
    | hard => rw [hjj] at hK; exact eff (fun w' hG => .inr ⟨hG, hjj⟩) hK
  · simp only [hw, Bool.false_eq_true, if_false] at hK ⊢
    exact hkey w (.inl (Gr.refl _)) _ (same _).1 (same _).2 _ (by rw [← Act.put_comm a v undef h2]; exact hK)

theorem gd_both {listed : Array Bool} {i : Nat} (h : listed.getD i true = false) : listed.getD i false = false := by
  by_cases h' : i < listed.size <;> simp_all
theorem gd_in {listed : Array Bool} {i : Nat} (hi : i < listed.size) (h : listed.getD i false = false) : listed.getD i true = false := by simp_all
theorem gd_repl (m j : Nat) : (Array.replicate m false).getD j false = false := by by_cases h : j < m <;> simp [h]

/-! ### The check -/
def deps (ops : Array Oper) (j : Nat) : List Nat :=
  match ops[j]? with
  | some o => o.after.toList.filterMap fun e => if Region.binds .any e then some e.on else none
  | none => []
def anc (ops : Array Oper) (k : Nat) : Nat → Nat → Bool
  | 0, _ => false
  | f + 1, j => (deps ops j).any fun e => e == k || anc ops k f e

def pairOk (ops : Array Oper) (knd : Nat → Knd) (k j : Nat) : Bool :=
  anc ops k ops.size j || (match ops[k]?, ops[j]? with
    | some ok, some oj => ok.apart ops oj && compat (knd k) (knd j)
    | _, _ => false)
def pairsOk (ops : Array Oper) (knd : Nat → Knd) : List Nat → Bool
  | [] => true
  | k :: r => r.all (pairOk ops knd k) && pairsOk ops knd r
/-- Each one's grounds stand ahead of it. -/
def topo (ops : Array Oper) : List Nat → Bool
  | [] => true
  | k :: r => (deps ops k).all (fun e => !(k :: r).contains e && Nat.blt e ops.size) && topo ops r
def mixB (ops : Array Oper) (knd : Nat → Knd) (ord : List Nat) : Bool :=
  Region.noSelect ops && (List.range ops.size).all (fun i => ord.contains i) && ord.all (fun i => Nat.blt i ops.size) && decide ord.Nodup && decide (ord.length = ops.size) &&
    pairsOk ops knd ord && topo ops ord

theorem mem_deps {j e : Nat} : e ∈ deps ops j ↔ ∃ o, ops[j]? = some o ∧ ∃ x ∈ o.after, Region.binds .any x = true ∧ x.on = e := by
  unfold deps
  cases h : ops[j]? with
  | none => simp
  | some o => simp

/-- All that is listed has its grounds listed. -/
def Closed (ops : Array Oper) (listed : Array Bool) : Prop := ∀ m, listed.getD m false = true → ∀ e ∈ deps ops m, listed.getD e false = true

theorem anc_listed {k : Nat} {listed : Array Bool} (hc : Closed ops listed) : ∀ f j, listed.getD j false = true → anc ops k f j = true → listed.getD k false = true
  | 0, _, _, h => by simp [anc] at h
  | f + 1, j, hl, h => by
    simp only [anc, List.any_eq_true, Bool.or_eq_true, beq_iff_eq] at h
    obtain ⟨e, he, h | h⟩ := h
    · subst h; exact hc j hl e he
    · exact anc_listed hc f e (hc j hl e he) h

theorem anc_ready {k : Nat} {listed : Array Bool} (hc : Closed ops listed) {f j : Nat} (hr : j ∈ Region.ready .any ops listed) (h : anc ops k f j = true) : listed.getD k false = true := by
  cases f with
  | zero => simp [anc] at h
  | succ f =>
    simp only [anc, List.any_eq_true, Bool.or_eq_true, beq_iff_eq] at h
    obtain ⟨e, he, h⟩ := h
    obtain ⟨_, o, ho, hall⟩ := mem_ready.1 hr
    obtain ⟨o', ho', x, hx, hb, hxe⟩ := mem_deps.1 he
    have : o' = o := Option.some.inj (ho'.symm.trans ho)
    subst this
    have hle : listed.getD e false = true := hxe ▸ hall x hx hb
    rcases h with h | h
    · subst h; exact hle
    · exact anc_listed hc f e hle h

/-- Bring one to the front. -/
theorem wk_front (hs : Region.noSelect ops = true) (hQ : ∀ c a d v w, Q (.panic c) (a.put d v) w → Q (.panic c) a w) {listed : Array Bool} (hc : Closed ops listed) {j : Nat}
    (hr : j ∈ Region.ready .any ops listed) : ∀ (l : List Nat), (∀ k ∈ l, listed.getD k false = false) → j ∈ l → pairsOk ops knd l = true → ∀ a w, wk P ops knd C Q l a w →
    ak P ops knd C Q j (wk P ops knd C Q (l.erase j)) a w
  | [], _, hj, _, _, _, _ => by simp at hj
  | k :: r, hun, hj, hp, a, w, h => by
    by_cases e : k = j
    · subst e; rw [List.erase_cons_head]; exact h
    · have hjr : j ∈ r := by rcases List.mem_cons.1 hj with h | h; exact absurd h.symm e; exact h
      simp only [pairsOk, Bool.and_eq_true, List.all_eq_true] at hp
      have ih := wk_front hs hQ hc hr r (fun k hk => hun k (List.mem_cons_of_mem _ hk)) hjr hp.2
      have h' : ak P ops knd C Q k (ak P ops knd C Q j (wk P ops knd C Q (r.erase j))) a w := ak_mono (fun a w h => ih a w h) h
      have hpk := hp.1 j hjr
      unfold pairOk at hpk
      rw [Bool.or_eq_true] at hpk
      rcases hpk with hpk | hpk
      · have := anc_ready hc hr hpk
        rw [hun k (List.mem_cons_self ..)] at this
        cases this
      · split at hpk
        · rename_i ok oj hok hoj
          rw [Bool.and_eq_true] at hpk
          have h2 := swap hok hoj hpk.1 hpk.2 (fun cs b => Region.noSelect_spec hs k ok cs b hok) (fun cs b => Region.noSelect_spec hs j oj cs b hoj) hQ h'
          have hbe : (k == j) = false := by simpa using e
          rw [List.erase_cons, hbe]
          exact h2
        · cases hpk

theorem pairsOk_erase {j : Nat} : ∀ (l : List Nat), pairsOk ops knd l = true → pairsOk ops knd (l.erase j) = true
  | [], _ => by simp [pairsOk]
  | k :: r, h => by
    simp only [pairsOk, Bool.and_eq_true, List.all_eq_true] at h
    rw [List.erase_cons]
    split
    · exact h.2
    · simp only [pairsOk, Bool.and_eq_true, List.all_eq_true]
      exact ⟨fun x hx => h.1 x (List.mem_of_mem_erase hx), pairsOk_erase r h.2⟩

theorem topo_erase {j : Nat} : ∀ (l : List Nat), topo ops l = true → topo ops (l.erase j) = true
  | [], _ => by simp [topo]
  | k :: r, h => by
    simp only [topo, Bool.and_eq_true, List.all_eq_true] at h
    rw [List.erase_cons]
    split
    · exact h.2
    · simp only [topo, Bool.and_eq_true, List.all_eq_true]
      refine ⟨fun x hx => ?_, topo_erase r h.2⟩
      have := h.1 x hx
      simp only [Bool.not_eq_true', List.contains_eq_mem, decide_eq_false_iff_not, List.mem_cons, not_or] at this ⊢
      exact ⟨⟨this.1.1, fun hm => this.1.2 (List.mem_of_mem_erase hm)⟩, this.2⟩

theorem wpOp_of_ak {i : Nat} {K K' : Act → World → Prop} {a : Act} {w : World} (hCg : ∀ w w', Gr w w' → C w → C w') (hC : C w) (hK : ∀ a w, C w → K a w → K' a w) (h : ak P ops knd C Q i K a w) :
    wpOp P ops Q i K' a w := by
  unfold ak at h
  unfold wpOp
  split at h
  · exact h.elim
  · rename_i o ho
    simp only [ho]
    split
    · rename_i hw
      simp only [hw, if_true] at h
      cases hk : knd i with
      | stab =>
        rw [hk] at h
        obtain ⟨v, hv, h2⟩ := h
        exact .inl (by unfold Oper.wp; rw [hv w hC]; exact hK _ _ hC h2)
      | read =>
        rw [hk] at h
        obtain ⟨v, hv, h2⟩ := h
        exact .inl (by unfold Oper.wp; rw [hv w (Gr.refl _)]; exact hK _ _ hC h2)
      | alloc => rw [hk] at h; exact .inl (Oper.wp_mono (fun a w' h => hK _ _ (hCg _ _ h.1 hC) h.2) h)
      | hard => rw [hk] at h; exact .inl (Oper.wp_mono (fun a w' h => hK _ _ h.1 h.2) h)
    · rename_i hw
      simp only [hw] at h
      exact hK _ _ hC h

theorem wpAny_of_wk (hs : Region.noSelect ops = true) (hQ : ∀ c a d v w, Q (.panic c) (a.put d v) w → Q (.panic c) a w) (hCg : ∀ w w', Gr w w' → C w → C w') :
    ∀ (n : Nat) (l : List Nat) (listed : Array Bool) (a : Act) (w : World), l.length = n → l.Nodup → listed.size = ops.size → (∀ i, i < ops.size → (listed.getD i false = false ↔ i ∈ l)) → (∀ i ∈ l, i < ops.size) →
    Closed ops listed → pairsOk ops knd l = true → topo ops l = true → C w → wk P ops knd C Q l a w → wpAny P .any ops Q n listed a w := by
  intro n
  induction n with
  | zero =>
    intro l listed a w hl _ hsz hun _ _ _ _ _ h
    obtain rfl : l = [] := List.eq_nil_of_length_eq_zero hl
    refine ⟨?_, h⟩
    rw [List.eq_nil_iff_forall_not_mem]
    intro j hj
    obtain ⟨h0, o, ho, _⟩ := mem_ready.1 hj
    have hlt : j < ops.size := (Array.getElem?_eq_some_iff.1 ho).1
    have := (hun j hlt).1 (gd_both h0)
    simp at this
  | succ n ih =>
    intro l listed a w hl hnd hsz hun hlt hc hp ht hC h
    constructor
    · intro hr
      exfalso
      cases l with
      | nil => simp at hl
      | cons k r =>
        have hk := hlt k (List.mem_cons_self ..)
        have : k ∈ Region.ready .any ops listed := by
          rw [mem_ready]
          refine ⟨gd_in (by omega) ((hun k hk).2 (List.mem_cons_self ..)), ops[k], by simp [hk], fun e he hb => ?_⟩
          simp only [topo, Bool.and_eq_true, List.all_eq_true] at ht
          have hd : e.on ∈ deps ops k := mem_deps.2 ⟨ops[k], by simp [hk], e, he, hb, rfl⟩
          have h1 := ht.1 _ hd
          simp only [Bool.not_eq_true', List.contains_eq_mem, decide_eq_false_iff_not] at h1
          cases hle : listed.getD e.on false with
          | true => rfl
          | false => exact absurd ((hun e.on (by simpa [Nat.blt_eq] using h1.2)).1 hle) h1.1
        rw [hr] at this
        cases this
    · intro j hj
      obtain ⟨h0, o, ho, hall⟩ := mem_ready.1 hj
      have hjlt : j < ops.size := (Array.getElem?_eq_some_iff.1 ho).1
      have hjl : j ∈ l := (hun j hjlt).1 (gd_both h0)
      have h1 := wk_front hs hQ hc hj l (fun k hk => (hun k (hlt k hk)).2 hk) hjl hp a w h
      refine wpOp_of_ak hCg hC (fun a' w' hC' h2 => ?_) h1
      refine ih (l.erase j) (listed.setIfInBounds j true) a' w' (by rw [List.length_erase_of_mem hjl]; omega) (hnd.erase _) (by simpa using hsz) ?_ (fun i hi => hlt i (List.mem_of_mem_erase hi)) ?_
        (pairsOk_erase l hp) (topo_erase l ht) hC' h2
      · intro i hi
        rw [hnd.mem_erase_iff]
        by_cases e : j = i
        · subst e; simp [hsz, hi]
        · rw [getD_set_ne false e, hun i hi]
          exact ⟨fun h => ⟨fun h' => e h'.symm, h⟩, fun h => h.2⟩
      · intro m hm e he
        by_cases ejm : j = m
        · subst ejm
          obtain ⟨o', ho', x, hx, hb, hxe⟩ := mem_deps.1 he
          have : o' = o := Option.some.inj (ho'.symm.trans ho)
          subst this
          exact getD_set_true (hxe ▸ hall x hx hb)
        · rw [getD_set_ne false ejm] at hm
          exact getD_set_true (hc m hm e he)

theorem wp_region_mix {id : Nat} {l : List Oper} {a : Act} {w : World} (knd : Nat → Knd) (C : World → Prop) (ord : List Nat) (hm : P.follows .mixedOrders = true) (hB : mixB l.toArray knd ord = true)
    (hQ : ∀ c a d v w, Q (.panic c) (a.put d v) w → Q (.panic c) a w) (hCg : ∀ w w', Gr w w' → C w → C w') (hC : C { w with drawn := w.drawn + 1 })
    (h : wk P l.toArray knd C Q ord a { w with drawn := w.drawn + 1 }) : (Code.region id l.toArray true).wp P Q a w := by
  simp only [mixB, Bool.and_eq_true, List.all_eq_true, decide_eq_true_eq, List.contains_eq_mem, List.mem_range, Nat.blt_eq] at hB
  obtain ⟨⟨⟨⟨⟨⟨h1, h2⟩, h3⟩, h4⟩, h5⟩, h6⟩, h7⟩ := hB
  refine wp_region_any hm ?_
  rw [← h5]
  refine wpAny_of_wk (P := P) (knd := knd) (C := C) h1 hQ hCg ord.length ord _ a _ rfl h4 (by simp [h5]) ?_ h3 ?_ h6 h7 hC h
  · intro i hi
    have e : (Array.replicate ord.length false).getD i false = false := gd_repl _ _
    exact ⟨fun _ => h2 i hi, fun _ => e⟩
  · intro m hm'
    rw [gd_repl] at hm'
    cases hm'

end
end Go.SL

namespace Go.SL
open Go.RowKit

/-- From this state on, K. -/
def Nx (g : Gh) (n : Nat) (fr : List (Nat × Value)) (L : List Chunk) (K : Act → World → Prop) : Prop := ∀ a w, St g n fr L a w → K a w
/-- From this state on, the operation, then K. -/
def Opw (P : Program) (g : Gh) (n : Nat) (fr : List (Nat × Value)) (L : List Chunk) (o : Oper) (K : Act → World → Prop) (Q : Exit → Act → World → Prop) : Prop :=
  ∀ a w, St g n fr L a w → o.wp P a w K Q

inductive Kt where
  | code (c : Code)
  | blk (id : Nat)
  | loop (R : Act → World → Prop)

def kpost (P : Program) : List Kt → (Exit → Act → World → Prop) → Exit → Act → World → Prop
  | [], Q => Q
  | .code c :: k, Q => Exit.then (fun a w => c.wp P (kpost P k Q) a w) (kpost P k Q)
  | .blk id :: k, Q => Exit.inBlock id (kpost P k Q)
  | .loop R :: k, Q => Exit.then R (kpost P k Q)

section
variable {P : Program} {g : Gh} {n : Nat} {fr : List (Nat × Value)} {L : List Chunk} {k : List Kt} {Q : Exit → Act → World → Prop}

theorem Nx.weaken {K : Act → World → Prop} {fr' : List (Nat × Value)} {L' : List Chunk} (h : Nx g n fr' L' K) (hf : FrSub fr fr') (hl : ∀ w, Sat g L w → Sat g L' w) : Nx g n fr L K :=
  fun a w s => h a w ⟨s.fr.mono hf, hl w s.sat⟩
theorem Nx.setL {K : Act → World → Prop} {L' : List Chunk} (h : Nx g n fr L' K) (hl : ∀ w, Sat g L w → Sat g L' w) : Nx g n fr L K :=
  fun a w s => h a w ⟨s.fr, hl w s.sat⟩
theorem Nx.take {K : Act → World → Prop} (L' : List Chunk) {rest : List Chunk} (ht : Take L' L rest) (h : Nx g n fr L' K) : Nx g n fr L K :=
  h.setL fun _ s => s.sub rest.flatten (by simpa using ht.perm.flatten)

theorem Nx.flat {K : Act → World → Prop} (L' : List Chunk) (hl : L'.flatten = L.flatten) (h : Nx g n fr L' K) : Nx g n fr L K :=
  h.setL fun _ s => s.sub [] (by rw [hl]; simp)

/-! ### Code -/
theorem nx_seq {x y : Code} (h : Nx g n fr L (x.wp P (kpost P (.code y :: k) Q))) : Nx g n fr L ((Code.seq x y).wp P (kpost P k Q)) :=
  fun a w s => wp_seq (h a w s)
theorem nx_block {id : Nat} {c : Code} (h : Nx g n fr L (c.wp P (kpost P (.blk id :: k) Q))) : Nx g n fr L ((Code.block id c).wp P (kpost P k Q)) :=
  fun a w s => wp_block (h a w s)
theorem nx_skip (h : Nx g n fr L (kpost P k Q .normal)) : Nx g n fr L (Code.skip.wp P (kpost P k Q)) := fun a w s => wp_skip (h a w s)
theorem nx_label {l : Nat} (h : Nx g n fr L (kpost P k Q .normal)) : Nx g n fr L ((Code.label l).wp P (kpost P k Q)) := fun a w s => wp_label (h a w s)
theorem nx_exit {id : Nat} (h : Nx g n fr L (kpost P k Q (.exit id))) : Nx g n fr L ((Code.exit id).wp P (kpost P k Q)) := fun a w s => wp_exit (h a w s)
theorem nx_ret (h : Nx g n fr L (kpost P k Q .ret)) : Nx g n fr L (Code.ret.wp P (kpost P k Q)) := fun a w s => wp_ret (h a w s)
theorem nx_cond {c : Operand} {x y : Code} {b : Bool} (hc : evF fr c = some (.bool b)) (ht : b = true → Nx g n fr L (x.wp P (kpost P k Q))) (hf : b = false → Nx g n fr L (y.wp P (kpost P k Q))) :
    Nx g n fr L ((Code.cond c x y).wp P (kpost P k Q)) :=
  fun a w s => wp_cond_split (s.fr.ev hc) (fun h => ht h a w s) (fun h => hf h a w s)
theorem nx_cond_t {c : Operand} {x y : Code} {b : Bool} (hc : evF fr c = some (.bool b)) (hb : b = true) (ht : Nx g n fr L (x.wp P (kpost P k Q))) :
    Nx g n fr L ((Code.cond c x y).wp P (kpost P k Q)) := nx_cond hc (fun _ => ht) (fun h => by rw [hb] at h; cases h)
theorem nx_cond_f {c : Operand} {x y : Code} {b : Bool} (hc : evF fr c = some (.bool b)) (hb : b = false) (hf : Nx g n fr L (y.wp P (kpost P k Q))) :
    Nx g n fr L ((Code.cond c x y).wp P (kpost P k Q)) := nx_cond hc (fun h => by rw [hb] at h; cases h) (fun _ => hf)

theorem wp_loop_rel {c : Code} {Q : Exit → Act → World → Prop} (J : Nat → Act → World → Prop)
    (round : ∀ m a w, J m a w → c.wp P (Exit.then (fun a' w' => ∃ m', m' < m ∧ J m' a' w') Q) a w) {m : Nat} {a : Act} {w : World} (h₀ : J m a w) : (Code.loop c).wp P Q a w := by
  intro b k cs
  have key : ∀ m a w, J m a w → ∃ e a' w', Q e a' w' ∧ Arrives P (lone (b.at a (.code c :: .inLoop c :: k)) cs w) b k cs e a' w' := by
    intro m
    induction m using Nat.strongRecOn with
    | _ m ih =>
      intro a w hI
      obtain ⟨e, a₁, w₁, hq, harr⟩ := round m a w hI b (.inLoop c :: k) cs
      cases e with
      | normal =>
        obtain ⟨m', hlt, hI₁⟩ := hq
        obtain ⟨e₂, a₂, w₂, hq₂, harr₂⟩ := ih m' hlt a₁ w₁ hI₁
        exact ⟨e₂, a₂, w₂, hq₂, .of_steps (Steps.trans harr (.one step_inLoop)) harr₂⟩
      | exit id => exact ⟨_, a₁, w₁, hq, .pass (x := .inLoop c) rfl (fun _ _ => .inl (by simp)) harr⟩
      | goto l => exact ⟨_, a₁, w₁, hq, .pass (x := .inLoop c) rfl (fun _ _ => .inl (by simp)) harr⟩
      | ret => exact ⟨_, a₁, w₁, hq, .pass (x := .inLoop c) rfl (fun _ _ => .inl (by simp)) harr⟩
      | panic ch => exact ⟨_, a₁, w₁, hq, .pass (x := .inLoop c) rfl (fun _ _ => .inl (by simp)) harr⟩
      | outgrown => exact ⟨_, a₁, w₁, hq, .pass (x := .inLoop c) rfl (fun _ _ => .inl (by simp)) harr⟩
  obtain ⟨e, a', w', hq, harr⟩ := key _ a w h₀
  exact ⟨e, a', w', hq, .of_steps (.one step_loop) harr⟩

/-- What holds at a loop's head: some frame and list of which the relation speaks, with this measure. -/
def LoopAt (g : Gh) (n : Nat) (I : List (Nat × Value) → List Chunk → Nat → Prop) (m : Nat) (a : Act) (w : World) : Prop := ∃ fr L, I fr L m ∧ St g n fr L a w
def LoopR (g : Gh) (n : Nat) (I : List (Nat × Value) → List Chunk → Nat → Prop) (m : Nat) : Act → World → Prop := fun a w => ∃ m', m' < m ∧ LoopAt g n I m' a w

/-- A loop: its relation, the start, one round. -/
theorem nx_loop {c : Code} (I : List (Nat × Value) → List Chunk → Nat → Prop) {fr' : List (Nat × Value)} {L' : List Chunk} {m : Nat} {rest : List Chunk} (h₀ : I fr' L' m) (hf : FrSub fr fr') (ht : Take L' L rest)
    (round : ∀ fr L m, I fr L m → Nx g n fr L (c.wp P (kpost P (.loop (LoopR g n I m) :: k) Q))) : Nx g n fr L ((Code.loop c).wp P (kpost P k Q)) :=
  fun _ _ s => wp_loop_rel (LoopAt g n I) (fun m a w ⟨fr, L, hI, hs⟩ => round fr L m hI a w hs)
    ⟨fr', L', h₀, s.fr.mono hf, s.sat.sub rest.flatten (by simpa using ht.perm.flatten)⟩

theorem nx_round {I : List (Nat × Value) → List Chunk → Nat → Prop} {m : Nat} {fr' : List (Nat × Value)} {L' : List Chunk} {m' : Nat} {rest : List Chunk} (h : I fr' L' m') (hm : m' < m) (hf : FrSub fr fr') (ht : Take L' L rest) :
    Nx g n fr L (kpost P (.loop (LoopR g n I m) :: k) Q .normal) :=
  fun _ _ s => ⟨m', hm, fr', L', h, s.fr.mono hf, s.sat.sub rest.flatten (by simpa using ht.perm.flatten)⟩

/-! ### What stands behind -/
theorem kp_code_normal {c : Code} (h : Nx g n fr L (c.wp P (kpost P k Q))) : Nx g n fr L (kpost P (.code c :: k) Q .normal) := h
theorem kp_code_exit {c : Code} {id : Nat} (h : Nx g n fr L (kpost P k Q (.exit id))) : Nx g n fr L (kpost P (.code c :: k) Q (.exit id)) := h
theorem kp_code_ret {c : Code} (h : Nx g n fr L (kpost P k Q .ret)) : Nx g n fr L (kpost P (.code c :: k) Q .ret) := h
theorem kp_blk_normal {id : Nat} (h : Nx g n fr L (kpost P k Q .normal)) : Nx g n fr L (kpost P (.blk id :: k) Q .normal) := h
theorem kp_blk_ret {id : Nat} (h : Nx g n fr L (kpost P k Q .ret)) : Nx g n fr L (kpost P (.blk id :: k) Q .ret) := h
theorem kp_blk_exit {id id' : Nat} (he : Nat.beq id' id = true) (h : Nx g n fr L (kpost P k Q .normal)) : Nx g n fr L (kpost P (.blk id :: k) Q (.exit id')) :=
  fun a w s => by
    show if id' = id then _ else _
    rw [if_pos (Nat.eq_of_beq_eq_true he)]
    exact h a w s
theorem kp_blk_other {id id' : Nat} (he : Nat.beq id' id = false) (h : Nx g n fr L (kpost P k Q (.exit id'))) : Nx g n fr L (kpost P (.blk id :: k) Q (.exit id')) :=
  fun a w s => by
    show if id' = id then _ else _
    rw [if_neg (fun e => by subst e; simp at he)]
    exact h a w s
theorem kp_loop_exit {R : Act → World → Prop} {id : Nat} (h : Nx g n fr L (kpost P k Q (.exit id))) : Nx g n fr L (kpost P (.loop R :: k) Q (.exit id)) := h
theorem kp_loop_ret {R : Act → World → Prop} (h : Nx g n fr L (kpost P k Q .ret)) : Nx g n fr L (kpost P (.loop R :: k) Q .ret) := h

/-! ### Regions -/
theorem nx_region {id : Nat} {l : List Oper} (h : Nx g n fr L (wpList P l.toArray (kpost P k Q) l)) : Nx g n fr L ((Code.region id l.toArray false).wp P (kpost P k Q)) :=
  fun a w s => wp_region_lit (h a w s)
theorem nx_nil {ops : Array Oper} (h : Nx g n fr L (kpost P k Q .normal)) : Nx g n fr L (wpList P ops (kpost P k Q) []) := h
theorem nx_op {ops : Array Oper} {d : Option Tmp} {op : Op} {ty : TypeId} {pos : String} {af : Array Edge} {rest : List Oper} {Q : Exit → Act → World → Prop}
    (h : Opw P g n fr L ⟨d, op, ty, pos, af, none⟩ (wpList P ops Q rest) Q) : Nx g n fr L (wpList P ops Q (⟨d, op, ty, pos, af, none⟩ :: rest)) := by
  intro a w s
  unfold wpList
  rw [if_pos (by simp [Region.wanted])]
  exact .inl (h a w s)

/-- What a guard says in this frame. -/
def guardF (ops : Array Oper) (fr : List (Nat × Value)) (j : Nat) : Option Value := ((ops[j]?).bind (·.dst)).bind (look fr)
theorem guardF_yielded {ops : Array Oper} {a : Act} {j : Nat} {b : Bool} (h : guardF ops fr j = some (.bool b)) (hf : FrOk n fr a) : yielded ops a.tmps j = some b := by
  unfold guardF at h
  unfold yielded
  cases hd : (ops[j]?).bind (·.dst) with
  | none => simp [hd] at h
  | some d => simp only [hd, Option.bind_some] at h ⊢; rw [hf.fr d _ h]

theorem guardF_undef {ops : Array Oper} {a : Act} {j : Nat} (h : guardF ops fr j = some undef) (hf : FrOk n fr a) : yielded ops a.tmps j = none := by
  unfold guardF at h
  unfold yielded
  cases hd : (ops[j]?).bind (·.dst) with
  | none => simp [hd] at h
  | some d => simp only [hd, Option.bind_some] at h ⊢; rw [hf.fr d _ h]; rfl
theorem nx_guard_u {ops : Array Oper} {t : Tmp} {op : Op} {ty : TypeId} {pos : String} {af : Array Edge} {j : Nat} {want : Bool} {rest : List Oper} {Q : Exit → Act → World → Prop}
    (hg : guardF ops fr j = some undef) (hd : Nat.blt t n = true) (h : Nx g n ((t, undef) :: fr) L (wpList P ops Q rest)) :
    Nx g n fr L (wpList P ops Q (⟨some t, op, ty, pos, af, some (j, want)⟩ :: rest)) := by
  intro a w s
  have hy := guardF_undef hg s.fr
  unfold wpList
  rw [if_neg (by simp [Region.wanted, hy])]
  exact h _ w ⟨s.fr.putB hd undef, s.sat⟩

theorem nx_guard {ops : Array Oper} {t : Tmp} {op : Op} {ty : TypeId} {pos : String} {af : Array Edge} {j : Nat} {want : Bool} {rest : List Oper} {Q : Exit → Act → World → Prop} {b : Bool}
    (hg : guardF ops fr j = some (.bool b)) (hd : Nat.blt t n = true)
    (ht : b = want → Opw P g n fr L ⟨some t, op, ty, pos, af, some (j, want)⟩ (wpList P ops Q rest) Q) (hf : b = (!want) → Nx g n ((t, undef) :: fr) L (wpList P ops Q rest)) :
    Nx g n fr L (wpList P ops Q (⟨some t, op, ty, pos, af, some (j, want)⟩ :: rest)) := by
  intro a w s
  have hy := guardF_yielded hg s.fr
  unfold wpList
  by_cases e : b = want
  · rw [if_pos (by simp [Region.wanted, hy, e])]
    exact .inl (ht e a w s)
  · rw [if_neg (by simp [Region.wanted, hy, e])]
    exact hf (by cases b <;> cases want <;> simp_all) _ w ⟨s.fr.putB hd undef, s.sat⟩
theorem nx_guard_y {ops : Array Oper} {t : Tmp} {op : Op} {ty : TypeId} {pos : String} {af : Array Edge} {j : Nat} {want : Bool} {rest : List Oper} {Q : Exit → Act → World → Prop} {b : Bool}
    (hg : guardF ops fr j = some (.bool b)) (hb : b = want) (h : Opw P g n fr L ⟨some t, op, ty, pos, af, some (j, want)⟩ (wpList P ops Q rest) Q) :
    Nx g n fr L (wpList P ops Q (⟨some t, op, ty, pos, af, some (j, want)⟩ :: rest)) := by
  intro a w s
  have hy := guardF_yielded hg s.fr
  unfold wpList
  rw [if_pos (by simp [Region.wanted, hy, hb])]
  exact .inl (h a w s)
theorem nx_guard_n {ops : Array Oper} {t : Tmp} {op : Op} {ty : TypeId} {pos : String} {af : Array Edge} {j : Nat} {want : Bool} {rest : List Oper} {Q : Exit → Act → World → Prop} {b : Bool}
    (hg : guardF ops fr j = some (.bool b)) (hb : b = !want) (hd : Nat.blt t n = true) (h : Nx g n ((t, undef) :: fr) L (wpList P ops Q rest)) :
    Nx g n fr L (wpList P ops Q (⟨some t, op, ty, pos, af, some (j, want)⟩ :: rest)) := by
  intro a w s
  have hy := guardF_yielded hg s.fr
  unfold wpList
  rw [if_neg (by simp [Region.wanted, hy, hb])]
  exact h _ w ⟨s.fr.putB hd undef, s.sat⟩

/-! ### One operation that leaves the world alone -/
/-- In this state the operation yields v and turns nothing. -/
def Yld (P : Program) (g : Gh) (L : List Chunk) (fr : List (Nat × Value)) (o : Oper) (v : Value) : Prop := ∀ n a w, FrOk n fr a → Sat g L w → (execOp a.eval o).run P w = .ok (.value v) w

theorem opw_yld {t : Tmp} {op : Op} {ty : TypeId} {pos : String} {af : Array Edge} {gd : Option (Nat × Bool)} {K : Act → World → Prop} {v : Value} (hy : Yld P g L fr ⟨some t, op, ty, pos, af, gd⟩ v) (hd : Nat.blt t n = true)
    (h : Nx g n ((t, v) :: fr) L K) : Opw P g n fr L ⟨some t, op, ty, pos, af, gd⟩ K Q := by
  intro a w s
  unfold Oper.wp
  rw [hy n a w s.fr s.sat]
  exact h _ w ⟨s.fr.putB hd v, s.sat⟩

/-- In this state the operation lays one new block. -/
def Alc (P : Program) (g : Gh) (L : List Chunk) (fr : List (Nat × Value)) (o : Oper) (ob : Obj) (mk : Nat → Value) : Prop :=
  ∀ n a w, FrOk n fr a → Sat g L w → (execOp a.eval o).run P w = .ok (.value (mk w.heap.size)) (w.alloc ob)

theorem opw_alc {t : Tmp} {op : Op} {ty : TypeId} {pos : String} {af : Array Edge} {gd : Option (Nat × Bool)} {K : Act → World → Prop} {ob : Obj} {mk : Nat → Value} (hy : Alc P g L fr ⟨some t, op, ty, pos, af, gd⟩ ob mk) (hd : Nat.blt t n = true)
    (h : ∀ b, Nx g n ((t, mk b) :: fr) ([(b, ob)] :: L) K) : Opw P g n fr L ⟨some t, op, ty, pos, af, gd⟩ K Q := by
  intro a w s
  unfold Oper.wp
  rw [hy n a w s.fr s.sat]
  exact h _ _ _ ⟨s.fr.putB hd _, s.sat.alloc ob⟩

/-! ### A region of drawn order -/
theorem Sat.grown {w w' : World} (h : Sat g L w) (hg : Gr w w') : Sat g L w' :=
  ⟨hg.os.trans h.os, hg.tape.trans h.tape, hg.output.trans h.output, Nat.le_trans h.size hg.size, h.nodup, fun x hx => by rw [hg.block _ (h.lt hx)]; exact h.holds x hx⟩

/-- What a panic leaves does not hang on the temporaries. -/
class PanicAny (Q : Exit → Act → World → Prop) : Prop where
  any : ∀ c a d v w, Q (.panic c) (a.put d v) w → Q (.panic c) a w
instance (fn : Func) (R : Ending → World → Prop) : PanicAny (bodyPost P fn R) := ⟨fun c a d v w h => by
  cases d with
  | none => exact h
  | some d => exact h⟩
instance (Q : Exit → Act → World → Prop) [h : PanicAny Q] : PanicAny (kpost P k Q) := by
  induction k with
  | nil => exact h
  | cons x k ih =>
    cases x with
    | code c => exact ⟨ih.any⟩
    | blk id => exact ⟨ih.any⟩
    | loop R => exact ⟨ih.any⟩

theorem nx_draw {id : Nat} {l : List Oper} [hQ : PanicAny Q] (knd : Nat → Knd) (Lc : List Chunk) (ord : List Nat) {rest : List Chunk} (hm : P.follows .mixedOrders = true) (hB : mixB l.toArray knd ord = true)
    (ht : Take Lc L rest) (h : Nx g n fr L (wk P l.toArray knd (Sat g Lc) (kpost P k Q) ord)) : Nx g n fr L ((Code.region id l.toArray true).wp P (kpost P k Q)) :=
  fun a w s => wp_region_mix knd (Sat g Lc) ord hm hB (PanicAny.any (Q := kpost P k Q)) (fun _ _ hg hs => hs.grown hg)
    ((s.sat.drewN).sub rest.flatten (by simpa using ht.perm.flatten)) (h a _ ⟨s.fr, s.sat.drewN⟩)

section
variable {ops : Array Oper} {knd : Nat → Knd} {Lc : List Chunk} {i : Nat} {r : List Nat} {t : Tmp} {op : Op} {ty : TypeId} {pos : String} {af : Array Edge}
theorem wk_nil {C : World → Prop} (h : Nx g n fr L (kpost P k Q .normal)) : Nx g n fr L (wk P ops knd C (kpost P k Q) []) := h

theorem wk_stab {Q : Exit → Act → World → Prop} {v : Value} (hi : ops[i]? = some ⟨some t, op, ty, pos, af, none⟩) (hk : knd i = .stab) (hy : Yld P g Lc fr ⟨some t, op, ty, pos, af, none⟩ v) (hd : Nat.blt t n = true)
    (h : Nx g n ((t, v) :: fr) L (wk P ops knd (Sat g Lc) Q r)) : Nx g n fr L (wk P ops knd (Sat g Lc) Q (i :: r)) := by
  intro a w s
  show ak P ops knd (Sat g Lc) Q i _ a w
  unfold ak
  rw [hi, hk]
  simp only [Region.wanted, if_true]
  exact ⟨v, fun w' hC => hy n a w' s.fr hC, h _ w ⟨s.fr.putB hd v, s.sat⟩⟩
theorem wk_read {Q : Exit → Act → World → Prop} {v : Value} (hi : ops[i]? = some ⟨some t, op, ty, pos, af, none⟩) (hk : knd i = .read) (hy : Yld P g L fr ⟨some t, op, ty, pos, af, none⟩ v) (hd : Nat.blt t n = true)
    (h : Nx g n ((t, v) :: fr) L (wk P ops knd (Sat g Lc) Q r)) : Nx g n fr L (wk P ops knd (Sat g Lc) Q (i :: r)) := by
  intro a w s
  show ak P ops knd (Sat g Lc) Q i _ a w
  unfold ak
  rw [hi, hk]
  simp only [Region.wanted, if_true]
  exact ⟨v, fun w' hG => hy n a w' s.fr (s.sat.grown hG), h _ w ⟨s.fr.putB hd v, s.sat⟩⟩
theorem wk_alloc {Q : Exit → Act → World → Prop} {ob : Obj} {mk : Nat → Value} (hi : ops[i]? = some ⟨some t, op, ty, pos, af, none⟩) (hk : knd i = .alloc) (hy : Alc P g L fr ⟨some t, op, ty, pos, af, none⟩ ob mk) (hd : Nat.blt t n = true)
    (h : ∀ b, Nx g n ((t, mk b) :: fr) ([(b, ob)] :: L) (wk P ops knd (Sat g Lc) Q r)) : Nx g n fr L (wk P ops knd (Sat g Lc) Q (i :: r)) := by
  intro a w s
  show ak P ops knd (Sat g Lc) Q i _ a w
  unfold ak
  rw [hi, hk]
  simp only [Region.wanted, if_true]
  show Oper.wp ..
  unfold Oper.wp
  rw [hy n a w s.fr s.sat]
  exact ⟨(Below.refl _ _).alloc (Nat.le_refl _) _, h _ _ _ ⟨s.fr.putB hd _, s.sat.alloc ob⟩⟩
theorem wk_hard {d : Option Tmp} {C : World → Prop} {Q : Exit → Act → World → Prop} (hi : ops[i]? = some ⟨d, op, ty, pos, af, none⟩) (hk : knd i = .hard)
    (h : Opw P g n fr L ⟨d, op, ty, pos, af, none⟩ (fun a w => C w ∧ wk P ops knd C Q r a w) Q) : Nx g n fr L (wk P ops knd C Q (i :: r)) := by
  intro a w s
  show ak P ops knd C Q i _ a w
  unfold ak
  rw [hi, hk]
  simp only [Region.wanted, if_true]
  exact h a w s
theorem nx_keeps {K : Act → World → Prop} {rest : List Chunk} (ht : Take Lc L rest) (h : Nx g n fr L K) : Nx g n fr L (fun a w => Sat g Lc w ∧ K a w) :=
  fun a w s => ⟨s.sat.sub rest.flatten (by simpa using ht.perm.flatten), h a w s⟩
theorem wk_guard_n {C : World → Prop} {Q : Exit → Act → World → Prop} {j : Nat} {want b : Bool} (hi : ops[i]? = some ⟨some t, op, ty, pos, af, some (j, want)⟩) (hg : guardF ops fr j = some (.bool b)) (hb : b = !want) (hd : Nat.blt t n = true)
    (h : Nx g n ((t, undef) :: fr) L (wk P ops knd C Q r)) : Nx g n fr L (wk P ops knd C Q (i :: r)) := by
  intro a w s
  have hy := guardF_yielded hg s.fr
  show ak P ops knd C Q i _ a w
  unfold ak
  rw [hi]
  simp only [Region.wanted, hy, hb]
  rw [if_neg (by simp)]
  exact h _ w ⟨s.fr.putB hd undef, s.sat⟩
theorem wk_guard_u {C : World → Prop} {Q : Exit → Act → World → Prop} {j : Nat} {want : Bool} (hi : ops[i]? = some ⟨some t, op, ty, pos, af, some (j, want)⟩) (hg : guardF ops fr j = some undef) (hd : Nat.blt t n = true)
    (h : Nx g n ((t, undef) :: fr) L (wk P ops knd C Q r)) : Nx g n fr L (wk P ops knd C Q (i :: r)) := by
  intro a w s
  have hy := guardF_undef hg s.fr
  show ak P ops knd C Q i _ a w
  unfold ak
  rw [hi]
  simp only [Region.wanted, hy]
  rw [if_neg (by simp)]
  exact h _ w ⟨s.fr.putB hd undef, s.sat⟩
theorem wk_guard_stab {Q : Exit → Act → World → Prop} {v : Value} {j : Nat} {want b : Bool} (hi : ops[i]? = some ⟨some t, op, ty, pos, af, some (j, want)⟩) (hk : knd i = .stab) (hg : guardF ops fr j = some (.bool b)) (hb : b = want)
    (hy : Yld P g Lc fr ⟨some t, op, ty, pos, af, some (j, want)⟩ v) (hd : Nat.blt t n = true)
    (h : Nx g n ((t, v) :: fr) L (wk P ops knd (Sat g Lc) Q r)) : Nx g n fr L (wk P ops knd (Sat g Lc) Q (i :: r)) := by
  intro a w s
  have hyl := guardF_yielded hg s.fr
  show ak P ops knd (Sat g Lc) Q i _ a w
  unfold ak
  rw [hi, hk]
  simp only [Region.wanted, hyl, hb, beq_self_eq_true, if_true]
  exact ⟨v, fun w' hC => hy n a w' s.fr hC, h _ w ⟨s.fr.putB hd v, s.sat⟩⟩
theorem wk_guard_read {Q : Exit → Act → World → Prop} {v : Value} {j : Nat} {want b : Bool} (hi : ops[i]? = some ⟨some t, op, ty, pos, af, some (j, want)⟩) (hk : knd i = .read) (hg : guardF ops fr j = some (.bool b)) (hb : b = want)
    (hy : Yld P g L fr ⟨some t, op, ty, pos, af, some (j, want)⟩ v) (hd : Nat.blt t n = true)
    (h : Nx g n ((t, v) :: fr) L (wk P ops knd (Sat g Lc) Q r)) : Nx g n fr L (wk P ops knd (Sat g Lc) Q (i :: r)) := by
  intro a w s
  have hyl := guardF_yielded hg s.fr
  show ak P ops knd (Sat g Lc) Q i _ a w
  unfold ak
  rw [hi, hk]
  simp only [Region.wanted, hyl, hb, beq_self_eq_true, if_true]
  exact ⟨v, fun w' hG => hy n a w' s.fr (s.sat.grown hG), h _ w ⟨s.fr.putB hd v, s.sat⟩⟩
theorem wk_guard_hard {d : Option Tmp} {C : World → Prop} {Q : Exit → Act → World → Prop} {j : Nat} {want b : Bool} (hi : ops[i]? = some ⟨d, op, ty, pos, af, some (j, want)⟩) (hk : knd i = .hard) (hg : guardF ops fr j = some (.bool b)) (hb : b = want)
    (h : Opw P g n fr L ⟨d, op, ty, pos, af, some (j, want)⟩ (fun a w => C w ∧ wk P ops knd C Q r a w) Q) : Nx g n fr L (wk P ops knd C Q (i :: r)) := by
  intro a w s
  have hyl := guardF_yielded hg s.fr
  show ak P ops knd C Q i _ a w
  unfold ak
  rw [hi, hk]
  simp only [Region.wanted, hyl, hb, beq_self_eq_true, if_true]
  exact h a w s
end

/-! ### Functions -/
def argFr : Nat → List Value → List (Nat × Value)
  | _, [] => []
  | i, v :: r => (i, v) :: argFr (i + 1) r
theorem look_argFr : ∀ (vs : List Value) (i t : Nat), look (argFr i vs) t = if i ≤ t then vs[t - i]? else none
  | [], i, t => by simp [argFr, look]
  | v :: r, i, t => by
    simp only [argFr, look_cons, look_argFr r (i + 1) t]
    by_cases h : i = t
    · subst h; simp
    · rw [if_neg h]
      by_cases h1 : i ≤ t
      · have : t - i = (t - (i + 1)) + 1 := by omega
        rw [if_pos h1, if_pos (by omega), this]; simp
      · rw [if_neg h1, if_neg (by omega)]

/-- What a call does: from a world in which 'pre' stands beside F it comes back with a value and a list of which 'post' speaks, F as it was. -/
def Sp (P : Program) (f : FuncId) (args : List Value) (F : Chunk) (pre : List Chunk) (post : Value → List Chunk → Prop) : Prop :=
  ∀ g w, Sat g (pre ++ [F]) w → Calls P f args.toArray w fun e w' => ∃ v B, e = .returned v ∧ post v B ∧ Sat g (B ++ [F]) w'

def fnPost (P : Program) (fn : Func) (g : Gh) (F : Chunk) (post : Value → List Chunk → Prop) : Exit → Act → World → Prop :=
  bodyPost P fn fun e w' => ∃ v B, e = .returned v ∧ post v B ∧ Sat g (B ++ [F]) w'
instance (fn : Func) (g : Gh) (F : Chunk) (post : Value → List Chunk → Prop) : PanicAny (fnPost P fn g F post) := by unfold fnPost; infer_instance

theorem sp_enter {f : FuncId} {fn : Func} {c : Code} {args : List Value} {F : Chunk} {pre : List Chunk} {post : Value → List Chunk → Prop} (hf : P.funcs[f]? = some fn) (hb : fn.body = some c)
    {n : Nat} (hn : fn.ntmps = n) (hl : Nat.ble args.length n = true)
    (h : ∀ g, Nx g n (argFr 0 args) (pre ++ [F]) (c.wp P (kpost P [] (fnPost P fn g F post)))) : Sp P f args F pre post := by
  intro g w hs
  refine calls_of_wp hf hb (h g _ w ⟨⟨?_, rfl, fun t v ht => ?_⟩, hs⟩)
  · have : args.length ≤ n := by simpa using hl
    simp [hn]; omega
  · rw [look_argFr] at ht
    simp only [Nat.zero_le, if_true, Nat.sub_zero] at ht
    have hlt : t < args.length := (List.getElem?_eq_some_iff.1 ht).1
    show (args.toArray ++ _)[t]? = some v
    rw [Array.getElem?_append_left (by simpa using hlt)]
    simpa using ht

theorem Sp.mono {f : FuncId} {args : List Value} {F : Chunk} {pre : List Chunk} {post post' : Value → List Chunk → Prop} (h : Sp P f args F pre post) (hp : ∀ v B, post v B → post' v B) : Sp P f args F pre post' :=
  fun g w hs => (h g w hs).mono fun _ _ ⟨v, B, he, hp', hs'⟩ => ⟨v, B, he, hp v B hp', hs'⟩

/-! The results: one, two, three, none in temporaries. -/
theorem res0 {fn : Func} {F : Chunk} {post : Value → List Chunk → Prop} {e : Exit} (he : e = .ret ∨ e = .normal) (hr : fn.results = #[]) (B : List Chunk) {rest : List Chunk} (ht : Take (B ++ [F]) L rest) (hp : post (.tuple #[]) B) :
    Nx g n fr L (kpost P [] (fnPost P fn g F post) e) := by
  intro a w s
  have : a.defers = [] ∧ ∃ v, (results fn a.tmps).run P w = .ok v w ∧ ∃ v' B, Ending.returned v = .returned v' ∧ post v' B ∧ Sat g (B ++ [F]) w :=
    ⟨s.fr.df, _, results_none hr _ _ _, _, B, rfl, hp, s.sat.sub rest.flatten (by simpa using ht.perm.flatten)⟩
  rcases he with rfl | rfl <;> exact this
theorem res1 {fn : Func} {F : Chunk} {post : Value → List Chunk → Prop} {e : Exit} (he : e = .ret ∨ e = .normal) {t : Tmp} (hr : fn.results = #[.tmp t]) {v : Value} (hv : look fr t = some v) (B : List Chunk) {rest : List Chunk} (ht : Take (B ++ [F]) L rest) (hp : post v B) :
    Nx g n fr L (kpost P [] (fnPost P fn g F post) e) := by
  intro a w s
  have hv' : a.tmps.getD t undef = v := by simp [Array.getD_eq_getD_getElem?, s.fr.fr t v hv]
  have : a.defers = [] ∧ ∃ v, (results fn a.tmps).run P w = .ok v w ∧ ∃ v' B, Ending.returned v = .returned v' ∧ post v' B ∧ Sat g (B ++ [F]) w :=
    ⟨s.fr.df, _, results_tmp hr _ _ _, _, B, rfl, by rw [hv']; exact hp, s.sat.sub rest.flatten (by simpa using ht.perm.flatten)⟩
  rcases he with rfl | rfl <;> exact this
theorem res2 {fn : Func} {F : Chunk} {post : Value → List Chunk → Prop} {e : Exit} (he : e = .ret ∨ e = .normal) {t u : Tmp} (hr : fn.results = #[.tmp t, .tmp u]) {v x : Value} (hv : look fr t = some v) (hx : look fr u = some x)
    (B : List Chunk) {rest : List Chunk} (ht : Take (B ++ [F]) L rest) (hp : post (.tuple #[v, x]) B) :
    Nx g n fr L (kpost P [] (fnPost P fn g F post) e) := by
  intro a w s
  have hv' : a.tmps.getD t undef = v := by simp [Array.getD_eq_getD_getElem?, s.fr.fr t v hv]
  have hx' : a.tmps.getD u undef = x := by simp [Array.getD_eq_getD_getElem?, s.fr.fr u x hx]
  have : a.defers = [] ∧ ∃ v, (results fn a.tmps).run P w = .ok v w ∧ ∃ v' B, Ending.returned v = .returned v' ∧ post v' B ∧ Sat g (B ++ [F]) w :=
    ⟨s.fr.df, _, results_tmp2 hr _ _ _, _, B, rfl, by rw [hv', hx']; exact hp, s.sat.sub rest.flatten (by simpa using ht.perm.flatten)⟩
  rcases he with rfl | rfl <;> exact this
end
end Go.SL

namespace Go.SL
open Go.RowKit

/-! ### Looking into the type table: computed, then proved once -/
def fieldQ (P : Program) (s f : Nat) : Option (Nat × Nat) :=
  match P.underlying s with
  | some (.struct fs) => match fs[f]? with
    | some x => some (x.offset, ((P.info? x.type).map (·.size)).getD 0)
    | none => none
  | _ => none
def sliceQ (P : Program) (t : Nat) : Option (Nat × Nat × Nat × List Value) :=
  match P.underlying t with
  | some (.slice e) => match P.info? e with
    | some i => match i.zero with
      | some z => some (e, i.size, i.bytes, z.cells.toList)
      | none => none
    | none => none
  | _ => none
def arrayQ (P : Program) (t : Nat) : Option (Nat × Nat × Nat) :=
  match P.underlying t with
  | some (.array n e) => match P.info? e with
    | some i => some (n, e, i.size)
    | none => none
  | _ => none
/-- Not a struct, not an array. -/
def scalQ (P : Program) (t : Nat) : Bool :=
  match P.underlying t with
  | some (.struct _) => false
  | some (.array _ _) => false
  | some _ => ((P.info? t).map (·.size)).getD 0 == 1
  | none => false
def aggQ (P : Program) (t : Nat) : Option Nat :=
  match P.underlying t with
  | some (.struct _) => (P.info? t).map (·.size)
  | some (.array _ _) => (P.info? t).map (·.size)
  | _ => none
def sizeQ (P : Program) (t : Nat) : Option Nat := (P.info? t).map (·.size)
def zeroQ (P : Program) (t : Nat) : Option (List Value) := (P.info? t).bind fun i => i.zero.map fun z => z.cells.toList
def mapQ (P : Program) (t : Nat) : Option (Nat × Nat × TypeDesc) :=
  match P.underlying t with
  | some (.map k e) => match P.underlying k with
    | some d => some (k, e, d)
    | none => none
  | _ => none

class FieldAt (P : Program) (s f : Nat) (off : outParam Nat) : Prop where
  eq : ∃ z, z ≠ 0 ∧ fieldQ P s f = some (off, z)
class SliceT (P : Program) (t : Nat) (e sz by' : outParam Nat) (z : outParam (List Value)) : Prop where
  eq : sliceQ P t = some (e, sz, by', z)
class ArrayT (P : Program) (t : Nat) (m e sz : outParam Nat) : Prop where
  eq : arrayQ P t = some (m, e, sz)
class Scal (P : Program) (t : Nat) : Prop where
  eq : scalQ P t = true
class AggT (P : Program) (t : Nat) (m : outParam Nat) : Prop where
  eq : aggQ P t = some m
class SizeT (P : Program) (t : Nat) (m : outParam Nat) : Prop where
  eq : sizeQ P t = some m
class ZeroT (P : Program) (t : Nat) (z : outParam (List Value)) : Prop where
  eq : zeroQ P t = some z
class UndT (P : Program) (t : Nat) (d : outParam TypeDesc) : Prop where
  eq : P.underlying t = some d
class MapT (P : Program) (t : Nat) (k e : outParam Nat) (d : outParam TypeDesc) : Prop where
  eq : mapQ P t = some (k, e, d)
/-- A function with a body, called by its number. -/
def callQ (P : Program) (f : Nat) : Bool :=
  match P.funcs[f]? with
  | some fn => fn.body.isSome && !(fn.name == "runtime.NumGoroutine")
  | none => false
class CallT (P : Program) (f : Nat) : Prop where
  eq : callQ P f = true

section
variable {P : Program} {g : Gh} {n : Nat} {fr : List (Nat × Value)} {L : List Chunk} {d : Option Tmp} {ty : TypeId} {pos : String} {af : Array Edge} {gd : Option (Nat × Bool)}

theorem run_underlying' {t : TypeId} {d : TypeDesc} (h : P.underlying t = some d) (w : World) : (underlying t).run P w = .ok d w := run_underlying h w
theorem run_sizeOf {t : TypeId} {m : Nat} (h : sizeQ P t = some m) (w : World) : (sizeOf t).run P w = .ok m w := by
  unfold sizeQ at h
  cases hi : P.info? t with
  | none => simp [hi] at h
  | some i => simp [hi] at h; simp [sizeOf, typeInfo, hi, h]
theorem run_zeroValue {t : TypeId} {i : TypeInfo} {z : Value} (hi : P.info? t = some i) (hz : i.zero = some z) (w : World) : (zeroValue t).run P w = .ok z w := by
  simp [zeroValue, typeInfo, hi, hz]

theorem FieldAt.run {s f off : Nat} (h : FieldAt P s f off) (a : Addr) (w : World) : (Instr.fieldAt s (.pointer (some a)) f).run P w = .ok (.pointer (some (a.add off))) w := by
  obtain ⟨z, hz, h⟩ := h.eq
  unfold fieldQ at h
  split at h
  · rename_i fs hu
    split at h
    · rename_i x hx
      simp only [Option.some.injEq, Prod.mk.injEq] at h
      obtain ⟨h1, h2⟩ := h
      have hsz : sizeQ P x.type = some z := by
        unfold sizeQ
        cases hi : P.info? x.type with
        | none => simp [hi] at h2; exact absurd h2.symm hz
        | some i => simpa [hi] using h2
      simp [Instr.fieldAt, run_underlying' hu, hx, Instr.sureAddr, fieldPlace, run_sizeOf hsz, hz, h1]
    · cases h
  · cases h

/-! ### Moves -/
theorem Yld.move {x : Operand} {v : Value} (hx : evF fr x = some v) : Yld P g L fr ⟨d, .move x, ty, pos, af, gd⟩ v := fun n a w hf _ => by simp [execOp, hf.ev hx]
theorem Yld.assign {x : Operand} {v : Value} (hx : evF fr x = some v) : Yld P g L fr ⟨d, .assign x, ty, pos, af, gd⟩ v := fun n a w hf _ => by simp [execOp, hf.ev hx]
theorem Yld.nilCheck {x : Operand} {p : Addr} (hx : evF fr x = some (.pointer (some p))) : Yld P g L fr ⟨d, .nilCheck x, ty, pos, af, gd⟩ (.pointer (some p)) := fun n a w hf _ => by simp [execOp, hf.ev hx]
theorem Yld.pick_t {c x y : Operand} {b : Bool} {v : Value} (hc : evF fr c = some (.bool b)) (hb : b = true) (hx : evF fr x = some v) : Yld P g L fr ⟨d, .pick c x y, ty, pos, af, gd⟩ v :=
  fun n a w hf _ => by simp [execOp, hf.ev hc, hf.ev hx, asBool, hb]
theorem Yld.pick_f {c x y : Operand} {b : Bool} {v : Value} (hc : evF fr c = some (.bool b)) (hb : b = false) (hy : evF fr y = some v) : Yld P g L fr ⟨d, .pick c x y, ty, pos, af, gd⟩ v :=
  fun n a w hf _ => by simp [execOp, hf.ev hc, hf.ev hy, asBool, hb]
theorem Yld.extract {x : Operand} {vs : List Value} {i : Nat} {v : Value} (hx : evF fr x = some (.tuple vs.toArray)) (hi : vs[i]? = some v) : Yld P g L fr ⟨d, .extract x i, ty, pos, af, gd⟩ v :=
  fun n a w hf _ => by simp [execOp, hf.ev hx, Instr.extract, hi]
/-! ### Arithmetic -/
theorem Yld.add {x y : Operand} {k : IntKind} {i j : Int} {t t' : TypeId} (hx : evF fr x = some (.int k i)) (hy : evF fr y = some (.int k j)) :
    Yld P g L fr ⟨d, .binOp .add t x y t', ty, pos, af, gd⟩ (.int k (k.wrap (i + j))) := fun n a w hf _ => by simp [execOp, hf.ev hx, hf.ev hy, eqGuard, binOp, Op.intArith]
theorem Yld.sub {x y : Operand} {k : IntKind} {i j : Int} {t t' : TypeId} (hx : evF fr x = some (.int k i)) (hy : evF fr y = some (.int k j)) :
    Yld P g L fr ⟨d, .binOp .sub t x y t', ty, pos, af, gd⟩ (.int k (k.wrap (i - j))) := fun n a w hf _ => by simp [execOp, hf.ev hx, hf.ev hy, eqGuard, binOp, Op.intArith]
theorem Yld.mul {x y : Operand} {k : IntKind} {i j : Int} {t t' : TypeId} (hx : evF fr x = some (.int k i)) (hy : evF fr y = some (.int k j)) :
    Yld P g L fr ⟨d, .binOp .mul t x y t', ty, pos, af, gd⟩ (.int k (k.wrap (i * j))) := fun n a w hf _ => by simp [execOp, hf.ev hx, hf.ev hy, eqGuard, binOp, Op.intArith]
theorem wrap_i64 {i : Int} (h1 : -9223372036854775808 ≤ i) (h2 : i ≤ 9223372036854775807) : IntKind.i64.wrap i = i := IntWalk.i64_in i (by omega)
theorem Yld.addI {x y : Operand} {i j : Int} {t t' : TypeId} (hx : evF fr x = some (.int .i64 i)) (hy : evF fr y = some (.int .i64 j)) (h1 : -9223372036854775808 ≤ i + j) (h2 : i + j ≤ 9223372036854775807) :
    Yld P g L fr ⟨d, .binOp .add t x y t', ty, pos, af, gd⟩ (.int .i64 (i + j)) := by have := Yld.add (P := P) (g := g) (L := L) (d := d) (ty := ty) (pos := pos) (af := af) (gd := gd) (t := t) (t' := t') hx hy; rwa [wrap_i64 h1 h2] at this
theorem Yld.subI {x y : Operand} {i j : Int} {t t' : TypeId} (hx : evF fr x = some (.int .i64 i)) (hy : evF fr y = some (.int .i64 j)) (h1 : -9223372036854775808 ≤ i - j) (h2 : i - j ≤ 9223372036854775807) :
    Yld P g L fr ⟨d, .binOp .sub t x y t', ty, pos, af, gd⟩ (.int .i64 (i - j)) := by have := Yld.sub (P := P) (g := g) (L := L) (d := d) (ty := ty) (pos := pos) (af := af) (gd := gd) (t := t) (t' := t') hx hy; rwa [wrap_i64 h1 h2] at this
theorem Yld.mulI {x y : Operand} {i j : Int} {t t' : TypeId} (hx : evF fr x = some (.int .i64 i)) (hy : evF fr y = some (.int .i64 j)) (h1 : -9223372036854775808 ≤ i * j) (h2 : i * j ≤ 9223372036854775807) :
    Yld P g L fr ⟨d, .binOp .mul t x y t', ty, pos, af, gd⟩ (.int .i64 (i * j)) := by have := Yld.mul (P := P) (g := g) (L := L) (d := d) (ty := ty) (pos := pos) (af := af) (gd := gd) (t := t) (t' := t') hx hy; rwa [wrap_i64 h1 h2] at this

/-- A comparison of two integers. -/
def cmpI : BinOp → Int → Int → Option Bool
  | .eql, a, b => some (a == b)
  | .neq, a, b => some (a != b)
  | .lss, a, b => some (decide (a < b))
  | .leq, a, b => some (decide (a ≤ b))
  | .gtr, a, b => some (decide (b < a))
  | .geq, a, b => some (decide (b ≤ a))
  | _, _, _ => none
theorem Yld.cmp {x y : Operand} {k : IntKind} {i j : Int} {t t' : TypeId} {op : BinOp} {b : Bool} (hx : evF fr x = some (.int k i)) (hy : evF fr y = some (.int k j)) (hb : cmpI op i j = some b) :
    Yld P g L fr ⟨d, .binOp op t x y t', ty, pos, af, gd⟩ (.bool b) := fun n a w hf _ => by
  cases op <;> simp only [cmpI] at hb <;> first
    | (cases hb; done)
    | (simp only [Option.some.injEq] at hb; subst hb; simp [execOp, hf.ev hx, hf.ev hy, eqGuard_at_int, binOp, Op.intCmp])
theorem Yld.eqS {x y : Operand} {s u : ByteArray} {t t' : TypeId} (hx : evF fr x = some (.string s)) (hy : evF fr y = some (.string u)) :
    Yld P g L fr ⟨d, .binOp .eql t x y t', ty, pos, af, gd⟩ (.bool (s.data.toList == u.data.toList)) := fun n a w hf _ => by simp [← Lib.toList_data, execOp, hf.ev hx, hf.ev hy, eqGuard_at_string, binOp, Op.stringOp]
theorem Yld.neS {x y : Operand} {s u : ByteArray} {t t' : TypeId} (hx : evF fr x = some (.string s)) (hy : evF fr y = some (.string u)) :
    Yld P g L fr ⟨d, .binOp .neq t x y t', ty, pos, af, gd⟩ (.bool (!(s.data.toList == u.data.toList))) := fun n a w hf _ => by simp [← Lib.toList_data, execOp, hf.ev hx, hf.ev hy, eqGuard_at_string, binOp, Op.stringOp]
theorem Yld.catS {x y : Operand} {s u : ByteArray} {t t' : TypeId} (hx : evF fr x = some (.string s)) (hy : evF fr y = some (.string u)) (h : s.size + u.size ≤ 9223372036854775807) :
    Yld P g L fr ⟨d, .binOp .add t x y t', ty, pos, af, gd⟩ (.string (s ++ u)) := fun n a w hf _ => by
  have : ¬ ((s.size + u.size : Nat) : Int) > IntKind.i64.max := by have : IntKind.i64.max = 9223372036854775807 := by decide
                                                                   omega
  simp only [execOp, hf.ev hx, hf.ev hy, eqGuard_at_string, binOp, Op.stringOp, if_neg this]
  simp
theorem Yld.eqB {x y : Operand} {b c : Bool} {t t' : TypeId} (hx : evF fr x = some (.bool b)) (hy : evF fr y = some (.bool c)) [hu : UndT P t .bool] :
    Yld P g L fr ⟨d, .binOp .eql t x y t', ty, pos, af, gd⟩ (.bool (b == c)) := fun n a w hf _ => by simp only [execOp, hf.ev hx, hf.ev hy, eqGuard_at_bool, Sem.run_bind, Sem.run_pure, Result.andThen_ok, run_eql_bool w t b c hu.eq]
theorem Yld.neB {x y : Operand} {b c : Bool} {t t' : TypeId} (hx : evF fr x = some (.bool b)) (hy : evF fr y = some (.bool c)) [hu : UndT P t .bool] :
    Yld P g L fr ⟨d, .binOp .neq t x y t', ty, pos, af, gd⟩ (.bool (!(b == c))) := fun n a w hf _ => by simp only [execOp, hf.ev hx, hf.ev hy, eqGuard_at_bool, Sem.run_bind, Sem.run_pure, Result.andThen_ok, run_neq_bool w t b c hu.eq]
theorem Yld.not {x : Operand} {b : Bool} {t : TypeId} (hx : evF fr x = some (.bool b)) : Yld P g L fr ⟨d, .unOp .not t x, ty, pos, af, gd⟩ (.bool (!b)) := fun n a w hf _ => by simp [execOp, hf.ev hx, Op.unary]

/-! ### Pointers held against nil -/
def isPtr (P : Program) (t : Nat) : Bool := match P.underlying t with | some (.pointer _) => true | _ => false
class PtrT (P : Program) (t : Nat) : Prop where
  eq : isPtr P t = true
theorem isPtr_und {t : Nat} (h : isPtr P t = true) : P.underlying t = some (.pointer (P.pointee t)) := by
  unfold isPtr at h
  split at h
  · rename_i e hu; rw [Program.pointee, hu]
  · cases h
theorem Yld.eqNil {x y : Operand} {p : Option Addr} {t t' : TypeId} (hx : evF fr x = some (.pointer p)) (hy : evF fr y = some (.pointer none)) [hp : PtrT P t] : Yld P g L fr ⟨d, .binOp .eql t x y t', ty, pos, af, gd⟩ (.bool p.isNone) :=
  fun n a w hf _ => by simp only [execOp, hf.ev hx, hf.ev hy, eqGuard_at_pointer, Sem.run_bind, Sem.run_pure, Result.andThen_ok, run_eql_pointer_nil w t p (isPtr_und hp.eq)]
theorem Yld.neNil {x y : Operand} {p : Option Addr} {t t' : TypeId} (hx : evF fr x = some (.pointer p)) (hy : evF fr y = some (.pointer none)) [hp : PtrT P t] : Yld P g L fr ⟨d, .binOp .neq t x y t', ty, pos, af, gd⟩ (.bool (!p.isNone)) :=
  fun n a w hf _ => by simp only [execOp, hf.ev hx, hf.ev hy, eqGuard_at_pointer, Sem.run_bind, Sem.run_pure, Result.andThen_ok, run_neq_pointer_nil w t p (isPtr_und hp.eq)]

/-! ### Loads -/
theorem scal_isAgg {t : Nat} (h : scalQ P t = true) (w : World) : (isAgg t).run P w = .ok false w := by
  unfold scalQ at h
  split at h
  · cases h
  · cases h
  · rename_i hu
    unfold isAgg
    simp only [Sem.run_bind, run_underlying' hu, Result.andThen_ok]
    rfl
  · cases h
theorem scal_size {t : Nat} (h : scalQ P t = true) : sizeQ P t = some 1 := by
  unfold scalQ at h
  split at h
  · cases h
  · cases h
  · unfold sizeQ
    cases hi : P.info? t with
    | none => simp [hi] at h
    | some i => simpa [hi] using h
  · cases h
theorem agg_isAgg {t m : Nat} (h : aggQ P t = some m) (w : World) : (isAgg t).run P w = .ok true w ∧ sizeQ P t = some m := by
  unfold aggQ at h
  unfold isAgg sizeQ
  split at h
  · rename_i hu; simp [run_underlying' hu, h]
  · rename_i hu; simp [run_underlying' hu, h]
  · cases h

/-! ### Lists, normal forms found by search -/
class NthL (l : List Value) (o : Nat) (v : outParam Value) : Prop where
  eq : l[o]? = some v
instance NthL.here (a : Value) (r : List Value) : NthL (a :: r) 0 a := ⟨rfl⟩
instance NthL.there (a : Value) (r : List Value) (o : Nat) (v : Value) [h : NthL r o v] : NthL (a :: r) (o + 1) v := ⟨by simpa using h.eq⟩
class TakeL (l : List Value) (m : Nat) (r : outParam (List Value)) : Prop where
  eq : l.take m = r ∧ r.length = m
instance TakeL.nil (l : List Value) : TakeL l 0 [] := ⟨by simp⟩
instance TakeL.cons (a : Value) (l r : List Value) (m : Nat) [h : TakeL l m r] : TakeL (a :: l) (m + 1) (a :: r) := ⟨by simp [h.eq.1, h.eq.2]⟩
/-- m cells from o on. -/
class SubL (l : List Value) (o m : Nat) (r : outParam (List Value)) : Prop where
  eq : (l.drop o).take m = r ∧ r.length = m
instance SubL.here (l r : List Value) (m : Nat) [h : TakeL l m r] : SubL l 0 m r := ⟨by simpa using h.eq⟩
instance SubL.there (a : Value) (l r : List Value) (o m : Nat) [h : SubL l o m r] : SubL (a :: l) (o + 1) m r := ⟨by simpa using h.eq⟩
/-- One cell set. -/
class PutL (l : List Value) (o : Nat) (v : Value) (r : outParam (List Value)) : Prop where
  eq : o < l.length ∧ l.set o v = r
instance PutL.here (a v : Value) (l : List Value) : PutL (a :: l) 0 v (v :: l) := ⟨by simp⟩
instance PutL.there (a v : Value) (l r : List Value) (o : Nat) [h : PutL l o v r] : PutL (a :: l) (o + 1) v (a :: r) := ⟨by simp [h.eq.1, h.eq.2]⟩
/-- Several cells set. -/
class PutsL (l : List Value) (o : Nat) (vs : List Value) (r : outParam (List Value)) : Prop where
  eq : o + vs.length ≤ l.length ∧ l.take o ++ vs ++ l.drop (o + vs.length) = r
instance PutsL.nil (l : List Value) : PutsL l 0 [] l := ⟨by simp⟩
instance PutsL.here (a v : Value) (l vs r : List Value) [h : PutsL l 0 vs r] : PutsL (a :: l) 0 (v :: vs) (v :: r) := ⟨by have := h.eq; simp at this ⊢; exact ⟨by omega, this.2⟩⟩
instance PutsL.there (a : Value) (l vs r : List Value) (o : Nat) [h : PutsL l o vs r] : PutsL (a :: l) (o + 1) vs (a :: r) := ⟨by
  have := h.eq
  simp only [List.length_cons, List.take_succ_cons, List.cons_append, List.cons.injEq, true_and]
  refine ⟨by omega, ?_⟩
  rw [show o + 1 + vs.length = (o + vs.length) + 1 by omega, List.drop_succ_cons]
  exact this.2⟩
class AddN (a b : Nat) (c : outParam Nat) : Prop where
  eq : a + b = c
instance (priority := low) AddN.any (a b : Nat) : AddN a b (a + b) := ⟨rfl⟩
instance AddN.zero (b : Nat) : AddN 0 b b := ⟨by simp⟩
instance (priority := high) AddN.right (a : Nat) : AddN a 0 a := ⟨by simp⟩
class MulN (a b : Nat) (c : outParam Nat) : Prop where
  eq : a * b = c
instance (priority := low) MulN.any (a b : Nat) : MulN a b (a * b) := ⟨rfl⟩
instance MulN.one (a : Nat) : MulN a 1 a := ⟨by simp⟩
instance (priority := high) MulN.zero (b : Nat) : MulN 0 b 0 := ⟨by simp⟩
class ToN (i : Int) (m : outParam Nat) : Prop where
  eq : i = m
instance ToN.cast (k : Nat) : ToN (k : Int) k := ⟨rfl⟩
instance ToN.zero : ToN (0 : Int) 0 := ⟨rfl⟩
instance ToN.one : ToN (1 : Int) 1 := ⟨rfl⟩
instance ToN.lit (m : Nat) : ToN (OfNat.ofNat (no_index (OfNat.ofNat m)) : Int) m := ⟨rfl⟩
instance ToN.add (i j : Int) (k m : Nat) [h : ToN i k] [h' : ToN j m] : ToN (i + j) (k + m) := ⟨by rw [h.eq, h'.eq]; simp⟩

theorem Yld.fieldAddr {x : Operand} {s f off : Nat} {b o q : Nat} (hx : evF fr x = some (.pointer (some ⟨b, o, none⟩))) [h : FieldAt P s f off] [hq : AddN o off q] : Yld P g L fr ⟨d, .fieldAddr s x f, ty, pos, af, gd⟩ (.pointer (some ⟨b, q, none⟩)) :=
  fun n a w hf _ => by
    have e1 := hq.eq
    subst e1
    simp only [execOp, hf.ev hx, Sem.run_bind, h.run]
    by_cases e : off = 0 <;> simp [Addr.add, e]

theorem Sat.cell {w : World} {b o : Nat} {c : Array Value} {e : TypeId} {z : Nat × Nat} {v : Value} (hs : Sat g L w) (h : (b, Obj.cells c e z) ∈ L.flatten) (hv : c[o]? = some v) : w.cell? ⟨b, o, none⟩ = some v := by
  simp [World.cell?, hs.holds _ h, hv]

theorem Yld.load {x : Operand} {t b o : Nat} {l : List Value} {e : TypeId} {z : Nat × Nat} {v : Value} (hx : evF fr x = some (.pointer (some ⟨b, o, none⟩))) [ht : Scal P t] [h : FndR b (.cells l.toArray e z) L] [hv : NthL l o v] :
    Yld P g L fr ⟨d, .load t x, ty, pos, af, gd⟩ v := fun n a w hf hs => by
  simp [execOp, hf.ev hx, Instr.loadAt, Instr.sureAddr, loadVar, scal_isAgg ht.eq, hs.cell h.mem (v := v) (o := o) (by simpa using hv.eq)]

theorem Sat.load_row {w : World} {b o m : Nat} {l : List Value} {e : TypeId} {z : Nat × Nat} {vs : List Value} (hs : Sat g L w) (h : (b, Obj.cells l.toArray e z) ∈ L.flatten) (hv : (l.drop o).take m = vs) (hl : vs.length = m) :
    (loadCells ⟨b, o, none⟩ m).run P w = .ok vs.toArray w := by
  rw [← hl]
  refine run_loadCells_list (w := w) (P := P) ⟨b, o, none⟩ vs fun j v hj => ?_
  have hjm : j < m := by have := (List.getElem?_eq_some_iff.1 hj).1; omega
  rw [← hv, List.getElem?_take, if_pos hjm, List.getElem?_drop] at hj
  have := hs.cell h (o := o + j) (v := v) (by simpa using hj)
  by_cases e0 : j = 0
  · subst e0; simpa [Addr.add] using this
  · simpa [Addr.add, e0] using this

theorem Yld.loadAgg {x : Operand} {t b o m : Nat} {l : List Value} {e : TypeId} {z : Nat × Nat} {vs : List Value} (hx : evF fr x = some (.pointer (some ⟨b, o, none⟩))) [ht : AggT P t m] [h : FndR b (.cells l.toArray e z) L] [hv : SubL l o m vs] :
    Yld P g L fr ⟨d, .load t x, ty, pos, af, gd⟩ (.agg vs.toArray) := fun n a w hf hs => by
  have h1 := agg_isAgg ht.eq w
  have h2 := hs.load_row (P := P) h.mem hv.eq.1 hv.eq.2
  simp [execOp, hf.ev hx, Instr.loadAt, Instr.sureAddr, loadVar, h1.1, run_sizeOf h1.2, h2]

/-! ### Indexing, slicing -/
theorem sliceQ_spec {t e sz by' : Nat} {z : List Value} (h : sliceQ P t = some (e, sz, by', z)) : P.underlying t = some (.slice e) ∧ ∃ i zv, P.info? e = some i ∧ i.size = sz ∧ i.bytes = by' ∧ i.zero = some zv ∧ zv.cells.toList = z := by
  unfold sliceQ at h
  split at h
  · rename_i e' hu
    split at h
    · rename_i i hi
      split at h
      · rename_i zv hz
        simp only [Option.some.injEq, Prod.mk.injEq] at h
        obtain ⟨rfl, rfl, rfl, rfl⟩ := h
        exact ⟨hu, i, zv, hi, rfl, rfl, hz, rfl⟩
      · cases h
    · cases h
  · cases h
theorem size_of_info {e : Nat} {i : TypeInfo} (hi : P.info? e = some i) : sizeQ P e = some i.size := by simp [sizeQ, hi]

theorem Yld.indexAddr {x y : Operand} {t b o len cap : Nat} {k : IntKind} {i : Int} {e sz by' : Nat} {z : List Value} {m p q : Nat} (hx : evF fr x = some (.slice (some ⟨b, o, none⟩) len cap)) (hy : evF fr y = some (.int k i))
    [ht : SliceT P t e sz by' z] [hm : ToN i m] (hi : i < (len : Int)) [hp : MulN m sz p] [hq : AddN o p q] : Yld P g L fr ⟨d, .indexAddr t x y, ty, pos, af, gd⟩ (.pointer (some ⟨b, q, none⟩)) := fun n a w hf _ => by
  obtain ⟨hu, inf, zv, hin, hsz, _, _, _⟩ := sliceQ_spec ht.eq
  have e1 := hm.eq
  subst e1
  have h2 : (Addr.add ⟨b, o, none⟩ (m * sz)) = ⟨b, q, none⟩ := by
    rw [hp.eq, ← hq.eq]
    by_cases e : p = 0 <;> simp [Addr.add, e]
  have h3 : (sizeOf e).run P w = .ok sz w := run_sizeOf (by rw [size_of_info hin, hsz]) w
  have h4 : m < len := by omega
  simp [execOp, hf.ev hx, hf.ev hy, Instr.indexAt, asIntOf, run_underlying' hu, h4, h3, h2]
theorem Yld.indexAddrA {x y : Operand} {t b o : Nat} {k : IntKind} {i : Int} {len e sz : Nat} {m p q : Nat} (hx : evF fr x = some (.pointer (some ⟨b, o, none⟩))) (hy : evF fr y = some (.int k i))
    [ht : ArrayT P t len e sz] [hm : ToN i m] (hi : i < (len : Int)) [hp : MulN m sz p] [hq : AddN o p q] : Yld P g L fr ⟨d, .indexAddr t x y, ty, pos, af, gd⟩ (.pointer (some ⟨b, q, none⟩)) := fun n a w hf _ => by
  have he := ht.eq
  unfold arrayQ at he
  split at he
  · rename_i n' e' hu
    split at he
    · rename_i inf hin
      simp only [Option.some.injEq, Prod.mk.injEq] at he
      obtain ⟨rfl, rfl, rfl⟩ := he
      have e1 := hm.eq
      subst e1
      have h2 : (Addr.add ⟨b, o, none⟩ (m * inf.size)) = ⟨b, q, none⟩ := by
        rw [hp.eq, ← hq.eq]
        by_cases e : p = 0 <;> simp [Addr.add, e]
      have h3 : (sizeOf e').run P w = .ok inf.size w := run_sizeOf (size_of_info hin) w
      have h4 : m < n' := by omega
      simp [execOp, hf.ev hx, hf.ev hy, Instr.indexAt, Instr.sureAddr, asIntOf, run_underlying' hu, h4, h3, h2]
    · cases he
  · cases he
theorem Yld.indexS {x y : Operand} {t : Nat} {s : ByteArray} {k : IntKind} {i : Int} {m : Nat} {c : UInt8} (hx : evF fr x = some (.string s)) (hy : evF fr y = some (.int k i)) [hu : UndT P t .string] [hm : ToN i m] (hc : s.data.toList[m]? = some c) :
    Yld P g L fr ⟨d, .index t x y, ty, pos, af, gd⟩ (.int .u8 c.toNat) := fun n a w hf _ => by
  have e1 := hm.eq
  subst e1
  have h2 : s[m]? = some c := by
    obtain ⟨hlt, hg⟩ := List.getElem?_eq_some_iff.1 hc
    have hlt' : m < s.size := by simpa using hlt
    rw [getElem?_pos s m hlt']
    have hg' : s[m] = c := by have := hg; simp at this; exact this
    exact congrArg some hg'
  simp [execOp, hf.ev hx, hf.ev hy, Instr.index, asIntOf, run_underlying' hu.eq, h2]

/-! ### A function without a body, at the model's own entry -/
def extQ (P : Program) (f : Nat) (e : Array Value → Sem Value) : Prop := ∃ fn, P.funcs[f]? = some fn ∧ fn.body.isNone = true ∧ (fn.name == "runtime.NumGoroutine") = false ∧ Extern.findNext fn = none ∧ Extern.find fn = some e
theorem run_ext {f : FuncId} {e : Array Value → Sem Value} {args : Array Value} (h : extQ P f e) {v : Value} {w : World} (hr : (e args).run P w = .ok v w) : (callFunc f args).run P w = .ok (.value v) w := by
  obtain ⟨fn, h1, h2, h3, h4, h5⟩ := h
  have h2' : fn.body = none := by simpa using h2
  have h3' : ¬ fn.name = "runtime.NumGoroutine" := by simpa using h3
  simp [callFunc, h1, h2', h3', h4, h5, hr]

/-! ### len, min, max -/
theorem Yld.lenSlice {x : Operand} {t : Nat} {a? : Option Addr} {len cap : Nat} {e sz by' : Nat} {z : List Value} (hx : evF fr x = some (.slice a? len cap)) [ht : SliceT P t e sz by' z] :
    Yld P g L fr ⟨d, .call ⟨.builtin .len, #[x], #[t]⟩, ty, pos, af, gd⟩ (.int .i64 len) := fun n a w hf _ => by
  have hu := (sliceQ_spec ht.eq).1
  simp [execOp, resolve, invoke, builtin, Builtin.len_, hf.ev hx, run_underlying' hu, goInt]
theorem Yld.lenString {x : Operand} {t : Nat} {s : ByteArray} (hx : evF fr x = some (.string s)) [hu : UndT P t .string] :
    Yld P g L fr ⟨d, .call ⟨.builtin .len, #[x], #[t]⟩, ty, pos, af, gd⟩ (.int .i64 s.size) := fun n a w hf _ => by
  simp [execOp, resolve, invoke, builtin, Builtin.len_, hf.ev hx, run_underlying' hu.eq, goInt]
theorem Yld.min2 {x y : Operand} {ts : Array TypeId} {k k' : IntKind} {i j : Int} (hx : evF fr x = some (.int k i)) (hy : evF fr y = some (.int k' j)) :
    Yld P g L fr ⟨d, .call ⟨.builtin .min, #[x, y], ts⟩, ty, pos, af, gd⟩ (.int k (if j < i then j else i)) := fun n a w hf _ => by
  simp [execOp, resolve, invoke, builtin, hf.ev hx, hf.ev hy, run_min_int2]
theorem Yld.max2 {x y : Operand} {ts : Array TypeId} {k k' : IntKind} {i j : Int} (hx : evF fr x = some (.int k i)) (hy : evF fr y = some (.int k' j)) :
    Yld P g L fr ⟨d, .call ⟨.builtin .max, #[x, y], ts⟩, ty, pos, af, gd⟩ (.int k (if j > i then j else i)) := fun n a w hf _ => by
  simp [execOp, resolve, invoke, builtin, hf.ev hx, hf.ev hy, run_max_int2]
end
end Go.SL

namespace Go.SL
open Go.RowKit

section
variable {P : Program} {g : Gh} {n : Nat} {fr : List (Nat × Value)} {L : List Chunk} {d : Option Tmp} {ty : TypeId} {pos : String} {af : Array Edge} {gd : Option (Nat × Bool)} {K : Act → World → Prop} {Q : Exit → Act → World → Prop}

/-! ### Lists of operands -/
def evsF (fr : List (Nat × Value)) : List Operand → Option (List Value)
  | [] => some []
  | x :: r => match evF fr x with
    | some v => match evsF fr r with
      | some vs => some (v :: vs)
      | none => none
    | none => none
theorem FrOk.evs {a : Act} (h : FrOk n fr a) : ∀ {xs : List Operand} {vs : List Value}, evsF fr xs = some vs → xs.map a.eval = vs
  | [], vs, hx => by simp [evsF] at hx; simp [hx]
  | x :: r, vs, hx => by
    simp only [evsF] at hx
    split at hx
    · rename_i v hv
      split at hx
      · rename_i ws hws
        cases hx
        simp [h.ev hv, h.evs hws]
      · cases hx
    · cases hx

/-! ### Calls -/
theorem run_callFunc {f : FuncId} {args : Array Value} (h : callQ P f = true) (w : World) : (callFunc f args).run P w = .ok (.enter f args) w := by
  unfold callQ at h
  split at h
  · rename_i fn hf
    simp only [Bool.and_eq_true, Bool.not_eq_true', beq_eq_false_iff_ne] at h
    obtain ⟨hb, hn⟩ := h
    obtain ⟨c, hc⟩ := Option.isSome_iff_exists.1 hb
    simp [callFunc, hf, hn, hc]
  · cases h

theorem Sat.ofTake {pre rest : List Chunk} {w : World} (h : Sat g L w) (t : Take pre L rest) : Sat g (pre ++ [rest.flatten]) w :=
  Sat.flatApp.2 (h.perm t.perm)

theorem Yld.ext {k : FuncId} {xs : List Operand} {vs : List Value} {ts : Array TypeId} {e : Array Value → Sem Value} {v : Value} (h : extQ P k e) (hx : evsF fr xs = some vs) (hr : ∀ w, Sat g L w → (e vs.toArray).run P w = .ok v w) :
    Yld P g L fr ⟨d, .call ⟨.value (.func k), xs.toArray, ts⟩, ty, pos, af, gd⟩ v := fun n a w hf hs => by
  simp [execOp, resolve, invoke, Act.eval, Deferred.ofValue, hf.evs hx, run_ext h (hr w hs)]

/-- A call of a function by its number. -/
theorem opw_call {t : Tmp} {k : FuncId} {xs : List Operand} {vs : List Value} {ts : Array TypeId} {pre rest : List Chunk} {post : Value → List Chunk → Prop} [hc : CallT P k] (hx : evsF fr xs = some vs)
    (hs : Sp P k vs rest.flatten pre post) (ht : Take pre L rest) (hd : Nat.blt t n = true) (h : ∀ v B, post v B → Nx g n ((t, v) :: fr) (B ++ rest) K) :
    Opw P g n fr L ⟨some t, .call ⟨.value (.func k), xs.toArray, ts⟩, ty, pos, af, gd⟩ K Q := by
  intro a w s
  unfold Oper.wp
  have e : (execOp a.eval ⟨some t, .call ⟨.value (.func k), xs.toArray, ts⟩, ty, pos, af, gd⟩).run P w = .ok (.enter k vs.toArray) w := by
    simp [execOp, resolve, invoke, Act.eval, Deferred.ofValue, s.fr.evs hx, run_callFunc hc.eq]
  rw [e]
  show Calls ..
  refine (hs g w (s.sat.ofTake ht)).mono ?_
  rintro e w' ⟨v, B, rfl, hp, hs'⟩
  exact h v B hp _ w' ⟨s.fr.putB hd v, Sat.flatApp.1 hs'⟩
/-- The same, where nothing is kept of the result. -/
theorem opw_call0 {k : FuncId} {xs : List Operand} {vs : List Value} {ts : Array TypeId} {pre rest : List Chunk} {post : Value → List Chunk → Prop} [hc : CallT P k] (hx : evsF fr xs = some vs)
    (hs : Sp P k vs rest.flatten pre post) (ht : Take pre L rest) (h : ∀ v B, post v B → Nx g n fr (B ++ rest) K) :
    Opw P g n fr L ⟨none, .call ⟨.value (.func k), xs.toArray, ts⟩, ty, pos, af, gd⟩ K Q := by
  intro a w s
  unfold Oper.wp
  have e : (execOp a.eval ⟨none, .call ⟨.value (.func k), xs.toArray, ts⟩, ty, pos, af, gd⟩).run P w = .ok (.enter k vs.toArray) w := by
    simp [execOp, resolve, invoke, Act.eval, Deferred.ofValue, s.fr.evs hx, run_callFunc hc.eq]
  rw [e]
  show Calls ..
  refine (hs g w (s.sat.ofTake ht)).mono ?_
  rintro e w' ⟨v, B, rfl, hp, hs'⟩
  exact h v B hp _ w' ⟨s.fr, Sat.flatApp.1 hs'⟩

/-- A call of a function value: a function's number, what it bears in front, what it captured. -/
theorem opw_callV {t : Tmp} {f : Operand} {k : FuncId} {first cap : List Value} {xs : List Operand} {vs all : List Value} {ts : Array TypeId} {pre rest : List Chunk} {post : Value → List Chunk → Prop}
    (hf : evF fr f = some (.func (.func k) first.toArray cap.toArray)) [hc : CallT P k] (hx : evsF fr xs = some vs) (hall : first ++ vs ++ cap = all)
    (hs : Sp P k all rest.flatten pre post) (ht : Take pre L rest) (hd : Nat.blt t n = true) (h : ∀ v B, post v B → Nx g n ((t, v) :: fr) (B ++ rest) K) :
    Opw P g n fr L ⟨some t, .call ⟨.value f, xs.toArray, ts⟩, ty, pos, af, gd⟩ K Q := by
  intro a w s
  unfold Oper.wp
  have e : (execOp a.eval ⟨some t, .call ⟨.value f, xs.toArray, ts⟩, ty, pos, af, gd⟩).run P w = .ok (.enter k all.toArray) w := by
    have e1 := s.fr.ev hf
    simp [execOp, resolve, invoke, e1, Deferred.ofValue, s.fr.evs hx, run_callFunc hc.eq, ← hall]
  rw [e]
  show Calls ..
  refine (hs g w (s.sat.ofTake ht)).mono ?_
  rintro e w' ⟨v, B, rfl, hp, hs'⟩
  exact h v B hp _ w' ⟨s.fr.putB hd v, Sat.flatApp.1 hs'⟩

/-! ### Stores -/
class FreeAt (z : Nat × Nat) (o : Nat) : Prop where
  eq : (decide (z.1 ≤ o) && decide (o < z.2)) = false
instance (o : Nat) : FreeAt (0, 0) o := ⟨by simp⟩

theorem modify_eq_set {heap : Array Obj} {b : Nat} {o : Obj} {f : Obj → Obj} (h : heap[b]? = some o) : heap.modify b f = heap.setIfInBounds b (f o) := by
  apply Array.ext_getElem?
  intro i
  rw [Array.getElem?_modify, Array.getElem?_setIfInBounds]
  by_cases e : b = i
  · subst e
    obtain ⟨hlt, he⟩ := Array.getElem?_eq_some_iff.1 h
    simp [hlt, he]
  · simp [e]

theorem Sat.put_cells {w w' : World} {b : Nat} {rest : List Chunk} {up : Obj → List Chunk} {ob ob' : Obj} (hs : Sat g L w) (hf : FndB b ob L rest up) (ho : w'.os = w.os) (ht : w'.tape = w.tape) (hu : w'.output = w.output)
    (hh : w'.heap = w.heap.setIfInBounds b ob') : Sat g (up ob') w' :=
  ((hs.perm hf.perm).put ho ht hu hh).perm (hf.put ob').symm

theorem opw_store {x y : Operand} {t b o : Nat} {l l' : List Value} {e : TypeId} {z : Nat × Nat} {v : Value} {rest : List Chunk} {up : Obj → List Chunk} (hx : evF fr x = some (.pointer (some ⟨b, o, none⟩))) (hy : evF fr y = some v)
    [ht : Scal P t] (h1 : v.oneCell' = true) [hf : FndB b (.cells l.toArray e z) L rest up] [hp : PutL l o v l'] [hz : FreeAt z o]
    (h : Nx g n fr (up (.cells l'.toArray e z)) K) : Opw P g n fr L ⟨none, .store t x y, ty, pos, af, gd⟩ K Q := by
  intro a w s
  have hb : w.heap[b]? = some (.cells l.toArray e z) := (s.sat.perm hf.perm).holds (b, _) (by simp)
  have hcell : w.cell? ⟨b, o, none⟩ = some l[o]! := by
    have := hp.eq.1
    simp [World.cell?, hb, this]
  have hfr : w.frozen? ⟨b, o, none⟩ = false := by
    have h3 := hz.eq
    cases z
    simp only [World.frozen?, hb]
    exact h3
  have hcs : v.cells = #[v] := by cases v <;> first | rfl | (simp [Value.oneCell'] at h1)
  have hrun : (store (⟨b, o, none⟩ : Addr) v).run P w = .ok () (w.setCell ⟨b, o, none⟩ v) := by rw [run_store P w _ _ _ h1, hcell]; simp [hfr]
  have e1 : (execOp a.eval ⟨none, .store t x y, ty, pos, af, gd⟩).run P w = .ok .skip (w.setCell ⟨b, o, none⟩ v) := by
    simp [execOp, s.fr.ev hx, s.fr.ev hy, Instr.storeAt, Instr.sureAddr, storeVar, hcs, run_sizeOf (scal_size ht.eq), storeCells, Addr.add, hrun]
  unfold Oper.wp
  rw [e1]
  refine h _ _ ⟨s.fr, s.sat.put_cells hf rfl rfl rfl ?_⟩
  unfold World.setCell
  rw [modify_eq_set hb]
  simp [hp.eq.2]

/-- A struct or an array stored. -/
theorem opw_storeAgg {x y : Operand} {t b o m : Nat} {l l' vs : List Value} {e : TypeId} {rest : List Chunk} {up : Obj → List Chunk} (hx : evF fr x = some (.pointer (some ⟨b, o, none⟩))) (hy : evF fr y = some (.agg vs.toArray))
    [ht : SizeT P t m] (hl : vs.length = m) (h1 : ∀ v ∈ vs, v.oneCell' = true) [hf : FndB b (.cells l.toArray e (0, 0)) L rest up] [hp : PutsL l o vs l']
    (h : Nx g n fr (up (.cells l'.toArray e (0, 0))) K) : Opw P g n fr L ⟨none, .store t x y, ty, pos, af, gd⟩ K Q := by
  intro a w s
  have hb : w.heap[b]? = some (.cells l.toArray e (0, 0)) := (s.sat.perm hf.perm).holds (b, _) (by simp)
  have hst := run_storeCells_at P b o e vs 0 l.toArray w hb (by simpa using hp.eq.1) h1
  have e1 : (execOp a.eval ⟨none, .store t x y, ty, pos, af, gd⟩).run P w = .ok .skip (w.setRow b (l.take o ++ vs ++ l.drop (o + vs.length)).toArray) := by
    simp [execOp, s.fr.ev hx, s.fr.ev hy, Instr.storeAt, Instr.sureAddr, storeVar, Value.cells, run_sizeOf ht.eq, hl, hst]
  unfold Oper.wp
  rw [e1]
  refine h _ _ ⟨s.fr, s.sat.put_cells hf rfl rfl rfl ?_⟩
  unfold World.setRow
  rw [modify_eq_set hb, hp.eq.2]

/-! ### New blocks -/
theorem zero_spec {t : Nat} {z : List Value} (h : zeroQ P t = some z) : ∃ i zv, P.info? t = some i ∧ i.zero = some zv ∧ zv.cells.toList = z := by
  unfold zeroQ at h
  cases hi : P.info? t with
  | none => simp [hi] at h
  | some i =>
    cases hz : i.zero with
    | none => simp [hi, hz] at h
    | some zv => exact ⟨i, zv, rfl, hz, by simpa [hi, hz] using h⟩

theorem Alc.alloc {t : TypeId} {z : List Value} [hz : ZeroT P t z] : Alc P g L fr ⟨d, .alloc t, ty, pos, af, gd⟩ (.cells z.toArray t (0, 0)) (fun b => .pointer (some ⟨b, 0, none⟩)) := fun n a w _ _ => by
  obtain ⟨i, zv, hi, hzv, hc⟩ := zero_spec hz.eq
  have e : zv.cells = z.toArray := by rw [← hc]
  simp [execOp, Instr.alloc, run_zeroValue hi hzv, newVar, newRow, e]

theorem Alc.box {t : TypeId} {x : Operand} {v : Value} (hx : evF fr x = some v) (hv : v.oneCell' = true) : Alc P g L fr ⟨d, .box t x, ty, pos, af, gd⟩ (.cells [v].toArray t (0, 0)) (fun b => .pointer (some ⟨b, 0, none⟩)) := fun n a w hf _ => by
  have hcs : v.cells = #[v] := by cases v <;> first | rfl | (simp [Value.oneCell'] at hv)
  simp [execOp, Instr.box, newVar, newRow, hf.ev hx, hcs]
theorem Alc.boxAgg {t : TypeId} {x : Operand} {vs : List Value} (hx : evF fr x = some (.agg vs.toArray)) : Alc P g L fr ⟨d, .box t x, ty, pos, af, gd⟩ (.cells vs.toArray t (0, 0)) (fun b => .pointer (some ⟨b, 0, none⟩)) := fun n a w hf _ => by
  simp [execOp, Instr.box, newVar, newRow, hf.ev hx, Value.cells]
theorem Alc.makeMap {t : TypeId} : Alc P g L fr ⟨d, .makeMap t none, ty, pos, af, gd⟩ (.map #[] 0) (fun b => .map (some b)) := fun n a w _ _ => by
  simp [execOp, Instr.makeMap]
theorem Alc.makeMapN {t : TypeId} {x : Operand} {k : IntKind} {i : Int} {ke e : Nat} {dd : TypeDesc} (hx : evF fr x = some (.int k i)) [hm : MapT P t ke e dd] : Alc P g L fr ⟨d, .makeMap t (some x), ty, pos, af, gd⟩ (.map #[] 0) (fun b => .map (some b)) := fun n a w hf _ => by
  have h := hm.eq
  unfold mapQ at h
  split at h
  · rename_i k' e' hu
    simp [execOp, Instr.makeMap, hf.ev hx, run_underlying' hu, asInt, asIntOf]
  · cases h

/-! ### Values built -/
/-- 'build' and 'buildSlice' reckon the cells by the type table alone. -/
def structQ (P : Program) (t : Nat) : Option (List (Nat × Nat) × List Value) :=
  match P.underlying t with
  | some (.struct fs) => match (P.info? t).bind (·.zero) with
    | some z => some (fs.toList.map fun f => (f.offset, ((P.info? f.type).map (·.size)).getD 0), z.cells.toList)
    | none => none
  | _ => none
class StructT (P : Program) (t : Nat) (places : outParam (List (Nat × Nat))) (z : outParam (List Value)) : Prop where
  eq : structQ P t = some (places, z) ∧ (match P.underlying t with | some (.struct fs) => fs.toList.all fun f => (P.info? f.type).isSome | _ => false) = true

/-- The cells with the parts laid in. -/
def fillL (places : List (Nat × Nat)) : List Value → List (Nat × Value) → Option (List Value)
  | cells, [] => some cells
  | cells, (i, v) :: rest => match places[i]? with
    | none => none
    | some (off, size) =>
      if Nat.beq v.cells.toList.length size && Nat.ble (off + v.cells.toList.length) cells.length then fillL places (cells.take off ++ v.cells.toList ++ cells.drop (off + v.cells.toList.length)) rest else none

theorem foldl_set (off : Nat) : ∀ (vs : List Value) (j : Nat) (cs : List Value), off + j + vs.length ≤ cs.length →
    ((vs.zipIdx j).foldl (fun (cs : Array Value) (c, j) => cs.setIfInBounds (off + j) c) cs.toArray) = (cs.take (off + j) ++ vs ++ cs.drop (off + j + vs.length)).toArray
  | [], j, cs, _ => by simp
  | v :: r, j, cs, h => by
    simp only [List.zipIdx_cons, List.foldl_cons, List.setIfInBounds_toArray]
    rw [foldl_set off r (j + 1) (cs.set (off + j) v) (by simp at h ⊢; omega)]
    congr 1
    simp only [List.length_cons] at h ⊢
    have e1 : off + (j + 1) = off + j + 1 := by omega
    rw [e1, List.take_add_one, List.take_set_of_le (Nat.le_refl _), List.getElem?_set_self (by omega), List.drop_set_of_lt (by omega)]
    simp [Nat.add_assoc, Nat.add_comm 1]

theorem fill_of_fillL {places : List (Nat × Nat)} : ∀ (parts : List (Nat × Value)) (cells r : List Value), fillL places cells parts = some r → Instr.fill (fun i => places[i]?) cells.toArray parts = some r.toArray
  | [], cells, r, h => by simp [fillL] at h; simp [Instr.fill, h]
  | (i, v) :: rest, cells, r, h => by
    simp only [fillL] at h
    split at h
    · cases h
    · rename_i off size hp
      split at h
      · rename_i hc
        simp only [Bool.and_eq_true, Nat.beq_eq, Nat.ble_eq] at hc
        have hc1 : v.cells.size = size := by simpa using hc.1
        have hc2 : off + v.cells.size ≤ cells.length := by simpa using hc.2
        have ih := fill_of_fillL rest _ r h
        simp only [Instr.fill, hp]
        rw [if_neg (by simp [hc1]; omega)]
        have hfl := foldl_set off v.cells.toList 0 cells (by simpa using hc2)
        simp only [Nat.add_zero] at hfl
        have e : Array.foldl (fun (cs : Array Value) (x : Value × Nat) => cs.setIfInBounds (off + x.2) x.1) cells.toArray v.cells.zipIdx = (v.cells.toList.zipIdx 0).foldl (fun (cs : Array Value) (c, j) => cs.setIfInBounds (off + j) c) cells.toArray := by
          rw [← Array.foldl_toList]; simp
        rw [e, hfl]
        exact ih
      · cases h

def evPs (fr : List (Nat × Value)) : List (Nat × Operand) → Option (List (Nat × Value))
  | [] => some []
  | (i, x) :: r => match evF fr x with
    | some v => match evPs fr r with
      | some vs => some ((i, v) :: vs)
      | none => none
    | none => none
theorem FrOk.evPs {a : Act} (h : FrOk n fr a) : ∀ {xs : List (Nat × Operand)} {vs : List (Nat × Value)}, evPs fr xs = some vs → xs.map (fun (i, x) => (i, a.eval x)) = vs
  | [], vs, hx => by simp [SL.evPs] at hx; simp [hx]
  | (i, x) :: r, vs, hx => by
    simp only [SL.evPs] at hx
    split at hx
    · rename_i v hv
      split at hx
      · rename_i ws hws
        cases hx
        simp [h.ev hv, h.evPs hws]
      · cases hx
    · cases hx

theorem mapM_places : ∀ (fs : List Field) (w : World), (fs.all fun f => (P.info? f.type).isSome) = true →
    ((fs.mapM fun f => (do pure (f.offset, ← sizeOf f.type) : Sem (Nat × Nat)))).run P w = .ok (fs.map fun f => (f.offset, ((P.info? f.type).map (·.size)).getD 0)) w
  | [], w, _ => by simp
  | f :: r, w, h => by
    simp only [List.all_cons, Bool.and_eq_true] at h
    obtain ⟨i, hi⟩ := Option.isSome_iff_exists.1 h.1
    have ih := mapM_places r w h.2
    have e1 : (do pure (f.offset, ← sizeOf f.type) : Sem (Nat × Nat)).run P w = .ok (f.offset, i.size) w := by simp [sizeOf, typeInfo, hi]
    rw [List.mapM_cons, Sem.run_bind, e1, Result.andThen_ok, Sem.run_bind, ih]
    simp [hi]

theorem run_build_struct {t : TypeId} {places : List (Nat × Nat)} {z cs : List Value} {ps : List (Nat × Value)} [ht : StructT P t places z] (hf : fillL places z ps = some cs) (w : World) :
    (Instr.build t ps.toArray).run P w = .ok (.agg cs.toArray) w := by
  have hq := ht.eq
  unfold structQ at hq
  obtain ⟨h1, h2⟩ := hq
  split at h1
  · rename_i fs hu
    rw [hu] at h2
    split at h1
    · rename_i zv hz
      cases hi : P.info? t with
      | none => simp [hi] at hz
      | some i =>
        simp only [hi, Option.bind_some] at hz
        simp only [Option.some.injEq, Prod.mk.injEq] at h1
        have hm := mapM_places (P := P) fs.toList w h2
        have hz' : zv.cells = z.toArray := by rw [← h1.2]
        have hfill := fill_of_fillL ps z cs hf
        have hm' : (fs.mapM fun f => (do pure (f.offset, ← sizeOf f.type) : Sem (Nat × Nat))).run P w = .ok places.toArray w := by
          rw [← Array.toArray_toList (xs := fs), List.mapM_toArray]
          simp only [Sem.run_map, hm, Result.andThen_ok, h1.1]
        simp only [Instr.build, Sem.run_bind, run_zeroValue hi hz, run_underlying' hu, Result.andThen_ok, hm', hz']
        have e : (fun i => places.toArray[i]?) = (fun i : Nat => places[i]?) := by funext i; simp
        rw [e, hfill]
        rfl
    · cases h1
  · cases h1
theorem Yld.build {t : TypeId} {xs : List (Nat × Operand)} {ps : List (Nat × Value)} {places : List (Nat × Nat)} {z cs : List Value} [ht : StructT P t places z] (hx : evPs fr xs = some ps) (hf : fillL places z ps = some cs) :
    Yld P g L fr ⟨d, .build t xs.toArray, ty, pos, af, gd⟩ (.agg cs.toArray) := fun n a w hfr _ => by
  have h := run_build_struct (P := P) (t := t) hf w
  have e := hfr.evPs hx
  simp [execOp, e, h]

def fillS (size : Nat) : List Value → List (Nat × Value) → Option (List Value)
  | cells, [] => some cells
  | cells, (i, v) :: rest =>
      if Nat.beq v.cells.toList.length size && Nat.ble (i * size + v.cells.toList.length) cells.length then fillS size (cells.take (i * size) ++ v.cells.toList ++ cells.drop (i * size + v.cells.toList.length)) rest else none
theorem fill_of_fillS {size : Nat} : ∀ (parts : List (Nat × Value)) (cells r : List Value), fillS size cells parts = some r → Instr.fill (fun i => some (i * size, size)) cells.toArray parts = some r.toArray
  | [], cells, r, h => by simp [fillS] at h; simp [Instr.fill, h]
  | (i, v) :: rest, cells, r, h => by
    simp only [fillS] at h
    split at h
    · rename_i hc
      simp only [Bool.and_eq_true, Nat.beq_eq, Nat.ble_eq] at hc
      have hc1 : v.cells.size = size := by simpa using hc.1
      have hc2 : i * size + v.cells.size ≤ cells.length := by simpa using hc.2
      have ih := fill_of_fillS rest _ r h
      simp only [Instr.fill]
      rw [if_neg (by simp [hc1]; omega)]
      have hfl := foldl_set (i * size) v.cells.toList 0 cells (by simpa using hc2)
      simp only [Nat.add_zero] at hfl
      have e : Array.foldl (fun (cs : Array Value) (x : Value × Nat) => cs.setIfInBounds (i * size + x.2) x.1) cells.toArray v.cells.zipIdx = (v.cells.toList.zipIdx 0).foldl (fun (cs : Array Value) (c, j) => cs.setIfInBounds (i * size + j) c) cells.toArray := by
        rw [← Array.foldl_toList]; simp
      rw [e, hfl]
      exact ih
    · cases h
/-- n zeros of a kind. -/
def zerosL (z : List Value) : Nat → List Value
  | 0 => []
  | k + 1 => z ++ zerosL z k
theorem range_zeros (z : List Value) : ∀ k, ((Array.range (k * z.length)).map fun i => z.toArray[i % z.toArray.size]!) = (zerosL z k).toArray := by
  intro k
  have key : ∀ k, (List.range (k * z.length)).map (fun i => z.toArray[i % z.toArray.size]!) = zerosL z k := by
    intro k
    induction k with
    | zero => simp [zerosL]
    | succ k ih =>
      have e : (k + 1) * z.length = z.length + k * z.length := by rw [Nat.add_mul]; omega
      rw [e, List.range_add, List.map_append, List.map_map, zerosL]
      congr 1
      · apply List.ext_getElem
        · simp
        · intro i h1 h2
          have : i < z.length := h2
          simp [Nat.mod_eq_of_lt this, this]
      · rw [← ih]
        apply List.map_congr_left
        intro i _
        simp
  apply Array.ext'
  simpa using key k

theorem Alc.buildSlice {t : TypeId} {m e sz by' : Nat} {z : List Value} {xs : List (Nat × Operand)} {ps : List (Nat × Value)} {cs : List Value} [ht : SliceT P t e sz by' z] (hx : evPs fr xs = some ps) (hm : Nat.ble (m * sz) 16777216 = true)
    (hzl : z.length = sz) (hsz : Nat.blt 0 sz = true) (hf : fillS sz (zerosL z m) ps = some cs) :
    Alc P g L fr ⟨d, .buildSlice t m xs.toArray, ty, pos, af, gd⟩ (.cells cs.toArray e (0, 0)) (fun b => .slice (some ⟨b, 0, none⟩) m m) := fun n a w hfr _ => by
  obtain ⟨hu, i, zv, hi, hs, _, hz, hc⟩ := sliceQ_spec ht.eq
  have e' := hfr.evPs hx
  have hz' : zv.cells = z.toArray := by rw [← hc]
  have hsz' : 0 < sz := by simpa [Nat.blt_eq] using hsz
  have hmm : ¬ (16777216 < m * sz) := by simpa using hm
  have hfill := fill_of_fillS ps (zerosL z m) cs hf
  have hzn : zv.cells.size = sz := by rw [hz']; simpa using hzl
  have hr : ((Array.range (m * sz)).map fun i => zv.cells[i % zv.cells.size]!) = (zerosL z m).toArray := by
    rw [hz', ← hzl]; exact range_zeros z m
  by_cases hm0 : m = 0
  · subst hm0
    simp only [zerosL] at hfill
    simp only [execOp, List.map_toArray, e', Instr.buildSlice, Sem.run_bind, run_underlying' hu, Result.andThen_ok, run_sizeOf (by rw [size_of_info hi, hs] : sizeQ P e = some sz)]
    have e0 : Array.map (fun _ => (default : Value)) (Array.range 0) = #[] := by rw [Array.range_zero']; simp
    simp [e0, hfill, newRow]
  · have hne : ¬ (m * sz = 0) := by
      intro h0; rcases Nat.mul_eq_zero.1 h0 with h0 | h0 <;> omega
    simp only [execOp, List.map_toArray, e', Instr.buildSlice, Sem.run_bind, run_underlying' hu, Result.andThen_ok, run_sizeOf (by rw [size_of_info hi, hs] : sizeQ P e = some sz)]
    simp only [Nat.reducePow, gt_iff_lt, if_neg hmm, hne, if_false, Sem.run_bind, Sem.run_pure, Result.andThen_ok, run_zeroValue hi hz, hr, hfill]
    simp [newRow]
end
end Go.SL

namespace Go.SL
set_option linter.unusedVariables false
open Go.RowKit

section
variable {P : Program} {g : Gh} {n : Nat} {fr : List (Nat × Value)} {L : List Chunk} {d : Option Tmp} {ty : TypeId} {pos : String} {af : Array Edge} {gd : Option (Nat × Bool)} {K : Act → World → Prop} {Q : Exit → Act → World → Prop}

/-- A slice value with its own array from the head on: m elements of sz cells, the cells xs. -/
def Own (e sz : Nat) (v : Value) (m : Nat) (xs : List Value) (c : Chunk) : Prop :=
  xs.length = m * sz ∧
  ((v = .slice none 0 0 ∧ m = 0 ∧ c = []) ∨
   ∃ b cap tl, v = .slice (some ⟨b, 0, none⟩) m cap ∧ c = [(b, .cells (xs ++ tl).toArray e (0, 0))] ∧ m ≤ cap ∧ cap ≤ maxLen ∧ cap * sz ≤ (xs ++ tl).length)

theorem Own.nil (e sz : Nat) : Own e sz (.slice none 0 0) 0 [] [] := ⟨by simp, .inl ⟨rfl, rfl, rfl⟩⟩
theorem Own.made {e sz b m : Nat} {xs : List Value} (h : xs.length = m * sz) (hm : m ≤ maxLen) : Own e sz (.slice (some ⟨b, 0, none⟩) m m) m xs [(b, .cells xs.toArray e (0, 0))] :=
  ⟨h, .inr ⟨b, m, [], rfl, by simp, Nat.le_refl _, hm, by simp [h]⟩⟩
theorem Own.made' {e sz b m cap : Nat} {xs tl : List Value} (h : xs.length = m * sz) (hm : m ≤ cap) (hc : cap ≤ maxLen) (hl : cap * sz ≤ (xs ++ tl).length) : Own e sz (.slice (some ⟨b, 0, none⟩) m cap) m xs [(b, .cells (xs ++ tl).toArray e (0, 0))] :=
  ⟨h, .inr ⟨b, cap, tl, rfl, rfl, hm, hc, hl⟩⟩

theorem Sat.cells_at {w : World} {b o : Nat} {l vs : List Value} {e : TypeId} {z : Nat × Nat} (hs : Sat g L w) (h : (b, Obj.cells l.toArray e z) ∈ L.flatten) (hv : (l.drop o).take vs.length = vs) :
    ∀ j u, vs[j]? = some u → w.cell? ((⟨b, o, none⟩ : Addr).add j) = some u := by
  intro j u hj
  have hjm : j < vs.length := (List.getElem?_eq_some_iff.1 hj).1
  rw [← hv, List.getElem?_take, if_pos hjm, List.getElem?_drop] at hj
  have := hs.cell h (o := o + j) (v := u) (by simpa using hj)
  by_cases e0 : j = 0
  · subst e0; simpa [Addr.add] using this
  · simpa [Addr.add, e0] using this

theorem Sat.alloc_drew {w : World} (h : Sat g L w) (o : Obj) : Sat g ([(w.heap.size, o)] :: L) (w.drew.alloc o) := h.drew.alloc o

/-- The news that an append lays behind: cells of memory. -/
theorem opw_append {q : Tmp} {x y : Operand} {t : TypeId} {e sz by' : Nat} {z : List Value} {v : Value} {m k cap' b' o' : Nat} {xs ys l : List Value} {e' : TypeId} {z' : Nat × Nat} {c : Chunk} {rest : List Chunk} {up : Chunk → List Chunk}
    (hx : evF fr x = some v) (hy : evF fr y = some (.slice (some ⟨b', o', none⟩) k cap')) [ht : SliceT P t e sz by' z] (hz : z.length = sz) (hown : Own e sz v m xs c) (hc : Fnd c L rest up)
    [hr : FndR b' (.cells l.toArray e' z') L] (hyl : (l.drop o').take ys.length = ys) (hlen : ys.length = k * sz) (h1 : ∀ u ∈ ys, u.oneCell' = true) (hm63 : m + k ≤ 9223372036854775807) (hby : (m + k) * by' ≤ 140737488355328) (hd : Nat.blt q n = true)
    (h : ∀ v' c', Own e sz v' (m + k) (xs ++ ys) c' → (v' = .slice none 0 0 ↔ v = .slice none 0 0 ∧ k = 0) → Nx g n ((q, v') :: fr) (up c') K) : Opw P g n fr L ⟨some q, .call ⟨.builtin .append, #[x, y], #[t, t]⟩, ty, pos, af, gd⟩ K Q := by
  intro a w s
  obtain ⟨hu, i, zv, hi, hs, hb, hzv, hcz⟩ := sliceQ_spec ht.eq
  subst hs
  subst hb
  have hnews := s.sat.cells_at hr.mem hyl
  have hzs : zv.cells.size = i.size := by rw [← hz, ← hcz]; simp
  have hlen' : (xs ++ ys).length = (m + k) * i.size := by rw [List.length_append, hown.1, hlen, Nat.add_mul]
  have hml : m + k ≤ maxLen := hm63
  have fin : ∀ (v' : Value) (w' : World) (c' : Chunk), (Builtin.append_ #[t, t] ty #[v, .slice (some ⟨b', o', none⟩) k cap']).run P w = .ok v' w' → Own e i.size v' (m + k) (xs ++ ys) c' → (v' = .slice none 0 0 ↔ v = .slice none 0 0 ∧ k = 0) → Sat g (c' :: rest) w' →
      Oper.wp P ⟨some q, .call ⟨.builtin .append, #[x, y], #[t, t]⟩, ty, pos, af, gd⟩ a w K Q := by
    intro v' w' c' hrun ho hnil hsat
    unfold Oper.wp
    have e1 : (execOp a.eval ⟨some q, .call ⟨.builtin .append, #[x, y], #[t, t]⟩, ty, pos, af, gd⟩).run P w = .ok (.value v') w' := by
      simp [execOp, resolve, invoke, builtin, s.fr.ev hx, s.fr.ev hy, hrun]
    rw [e1]
    exact h v' c' ho hnil _ _ ⟨s.fr.putB hd v', hsat.perm (hc.put c').symm⟩
  have hsr : Sat g (c :: rest) w := s.sat.perm hc.perm
  have grownOwn : ∀ (old : Nat), Own e i.size (.slice (some ⟨w.heap.size, 0, none⟩) (m + k) (grownCap w (m + k) old e)) (m + k) (xs ++ ys)
      [(w.heap.size, .cells (xs ++ ys ++ (Builtin.zeroCells zv.cells (grownCap w (m + k) old e - (m + k))).toList).toArray e (0, 0))] := by
    intro old
    have hge := grownCap_ge w (m + k) old e
    refine Own.made' hlen' hge (grownCap_le_maxLen w _ _ _ hml) ?_
    rw [List.length_append, hlen', Array.length_toList, size_zeroCells, hzs, ← Nat.add_mul]
    exact Nat.mul_le_mul_right _ (by omega)
  rcases hown.2 with ⟨rfl, rfl, rfl⟩ | ⟨b, cap, tl, rfl, rfl, hmc, hcm, htl⟩
  · have hx0 : xs = [] := List.eq_nil_of_length_eq_zero (by simpa using hown.1)
    subst hx0
    by_cases hk : k = 0
    · subst hk
      have hy0 : ys = [] := List.eq_nil_of_length_eq_zero (by simpa using hlen)
      subst hy0
      refine fin (.slice none 0 0) w [] ?_ (Own.nil e i.size) (by simp) hsr
      simp [Builtin.append_, run_underlying hu, sizeOf, typeInfo, hi, Builtin.lenOf, Builtin.firstCells, loadCells, loadCellsFrom]
    · have hr' := run_append_nil (P := P) w t ty e i zv hu hi hzv ⟨b', o', none⟩ k cap' ys hlen hnews (by omega) (by simp at hm63; omega) (by simp only [Nat.zero_add] at hby; omega)
      have hg := grownOwn 0
      simp only [Nat.zero_add, List.nil_append] at hg hr' ⊢
      have e2 : (ys.toArray ++ Builtin.zeroCells zv.cells (grownCap w k 0 e - k)) = (ys ++ (Builtin.zeroCells zv.cells (grownCap w k 0 e - k)).toList).toArray := by apply Array.ext'; simp
      rw [e2] at hr'
      exact fin _ _ _ hr' (by simpa using hg) (by simp [hk]) (hsr.tail.alloc_drew _)
  · have hb : w.heap[b]? = some (.cells (xs ++ tl).toArray e (0, 0)) := hsr.holds (b, _) (by simp)
    by_cases hroom : m + k ≤ cap
    · have hfit : m * i.size + ys.length ≤ (xs ++ tl).toArray.size := by
        simp only [List.size_toArray]; rw [hlen, ← Nat.add_mul]; exact Nat.le_trans (Nat.mul_le_mul_right _ hroom) htl
      have hr' := run_append_room (P := P) w t ty e i hu hi b m cap _ hb ⟨b', o', none⟩ k cap' ys hlen hnews h1 hroom hfit
      have e3 : ((xs ++ tl).toArray.toList.take (m * i.size) ++ ys ++ (xs ++ tl).toArray.toList.drop (m * i.size + ys.length)).toArray = (xs ++ ys ++ tl.drop ys.length).toArray := by
        apply Array.ext'
        simp only [← hown.1, List.append_assoc]
        rw [List.take_left, List.drop_append]
        simp [List.drop_eq_nil_of_le]
      rw [e3] at hr'
      refine fin _ _ _ hr' ⟨hlen', .inr ⟨b, cap, tl.drop ys.length, rfl, rfl, hroom, hcm, ?_⟩⟩ (by simp) (hsr.put rfl rfl rfl ?_)
      · have h5 : cap * i.size ≤ (xs ++ tl).length := htl
        have h6 : m * i.size + ys.length ≤ cap * i.size := by rw [hlen, ← Nat.add_mul]; exact Nat.mul_le_mul_right _ hroom
        have h7 := hown.1
        simp only [List.length_append, List.length_drop] at h5 ⊢
        omega
      · unfold World.setRow
        rw [modify_eq_set hb]
    · have holds : ∀ j u, xs[j]? = some u → w.cell? ((⟨b, 0, none⟩ : Addr).add j) = some u := hsr.cells_at (b := b) (o := 0) (l := xs ++ tl) (e := e) (z := (0, 0)) (by simp) (by simp)
      have hr' := run_append_grow (P := P) w t ty e i zv hu hi hzv ⟨b, 0, none⟩ m cap xs hown.1 holds ⟨b', o', none⟩ k cap' ys hlen hnews (by omega) (by omega) (growslice_fits (by omega) hby)
      have e2 : (xs.toArray ++ ys.toArray ++ Builtin.zeroCells zv.cells (grownCap w (m + k) cap e - (m + k))) = (xs ++ ys ++ (Builtin.zeroCells zv.cells (grownCap w (m + k) cap e - (m + k))).toList).toArray := by apply Array.ext'; simp
      rw [e2] at hr'
      exact fin _ _ _ hr' (grownOwn cap) (by simp) (hsr.tail.alloc_drew _)

/-! ### make -/
theorem madeCells_zeros (z : List Value) (k : Nat) {sz' : Nat} (h : z.toArray.size = sz') (m : Nat) (hm : m = k * sz') : madeCells z.toArray m = (zerosL z k).toArray := by
  subst hm
  subst h
  have := range_zeros z k
  simpa [madeCells] using this
theorem Alc.makeSlice {t : TypeId} {e sz by' : Nat} {z : List Value} {x y : Operand} {kl kc : IntKind} {i j : Int} {l c : Nat} [ht : SliceT P t e sz by' z] (hz : z.length = sz) (hx : evF fr x = some (.int kl i)) (hy : evF fr y = some (.int kc j))
    [hi : ToN i l] [hj : ToN j c] (hlc : l ≤ c) (hb : by' * c ≤ 281474976710656) (hc : c ≤ 9223372036854775807) :
    Alc P g L fr ⟨d, .makeSlice t x y, ty, pos, af, gd⟩ (.cells (zerosL z c).toArray e (0, 0)) (fun b => .slice (some ⟨b, 0, none⟩) l c) := fun n a w hf _ => by
  obtain ⟨hu, inf, zv, hin, hs, hby, hzv, hcz⟩ := sliceQ_spec ht.eq
  have e1 := hi.eq
  have e2 := hj.eq
  subst e1
  subst e2
  subst hby
  have hb3 : ((inf.bytes * c : Nat) : Int) ≤ 281474976710656 := by omega
  rw [Int.natCast_mul] at hb3
  have hr := run_make (P := P) w t e inf zv hu hin hzv kl kc l c (by omega) (by omega) hb3 (by omega)
  have hz' : zv.cells = z.toArray := by rw [← hcz]
  rw [hz', Int.toNat_natCast, Int.toNat_natCast, hs, madeCells_zeros (sz' := sz) z c (by simpa using hz) _ rfl] at hr
  simp [execOp, hf.ev hx, hf.ev hy, hr]

/-! ### Slices cut -/
/-- The bounds of a cut, as numbers. -/
theorem run_sliceBound' {k : IntKind} {i : Int} {m y : Nat} {code : BoundsCode} (h : i = m) (hm : m ≤ y) (w : World) : (Instr.sliceBound (.int k i) y code).run P w = .ok m w := by
  subst h
  simp [Instr.sliceBound, asIntOf, hm]

/-- Where a cut begins. -/
def cutAddr (b o lo hi sz m : Nat) : Option Addr := if m = lo then some ⟨b, o, none⟩ else some ⟨b, o + lo * sz, none⟩
theorem Yld.sliceLH {x y z : Operand} {t b o len cap : Nat} {e sz by' : Nat} {zz : List Value} {k k' : IntKind} {i j : Int} {lo hi : Nat} (hx : evF fr x = some (.slice (some ⟨b, o, none⟩) len cap)) (hy : evF fr y = some (.int k i)) (hz : evF fr z = some (.int k' j))
    [ht : SliceT P t e sz by' zz] [hl : ToN i lo] [hh : ToN j hi] (h1 : lo ≤ hi) (h2 : hi ≤ cap) :
    Yld P g L fr ⟨d, .slice t x (some y) (some z) none, ty, pos, af, gd⟩ (.slice (if cap = lo then some ⟨b, o, none⟩ else some ⟨b, o + lo * sz, none⟩) (hi - lo) (cap - lo)) := fun n a w hf _ => by
  obtain ⟨hu, inf, zv, hin, hs, _, _, _⟩ := sliceQ_spec ht.eq
  have hsz := run_sizeOf (P := P) (by rw [size_of_info hin, hs] : sizeQ P e = some sz) w
  have hadd : ∀ q, (Addr.add ⟨b, o, none⟩ q) = ⟨b, o + q, none⟩ := fun q => by by_cases e : q = 0 <;> simp [Addr.add, e]
  simp only [execOp, hf.ev hx, hf.ev hy, hf.ev hz, Option.map_some, Option.map_none, Instr.sliceAt, Instr.slice, Instr.sliceBounds, Sem.run_bind, run_underlying' hu, Result.andThen_ok, run_sliceBound' hh.eq h2, run_sliceBound' hl.eq h1, hsz, Sem.run_pure, hadd]
theorem Yld.sliceH {x z : Operand} {t b o len cap : Nat} {e sz by' : Nat} {zz : List Value} {k' : IntKind} {j : Int} {hi : Nat} (hx : evF fr x = some (.slice (some ⟨b, o, none⟩) len cap)) (hz : evF fr z = some (.int k' j))
    [ht : SliceT P t e sz by' zz] [hh : ToN j hi] (h2 : hi ≤ cap) :
    Yld P g L fr ⟨d, .slice t x none (some z) none, ty, pos, af, gd⟩ (.slice (some ⟨b, o, none⟩) hi cap) := fun n a w hf _ => by
  obtain ⟨hu, inf, zv, hin, hs, _, _, _⟩ := sliceQ_spec ht.eq
  have hsz := run_sizeOf (P := P) (by rw [size_of_info hin, hs] : sizeQ P e = some sz) w
  simp only [execOp, hf.ev hx, hf.ev hz, Option.map_some, Option.map_none, Instr.sliceAt, Instr.slice, Instr.sliceBounds, Sem.run_bind, run_underlying' hu, Result.andThen_ok, run_sliceBound' hh.eq h2, hsz, Sem.run_pure]
  by_cases e : cap = 0 <;> simp [e, Addr.add]
theorem Yld.sliceHM {x z q : Operand} {t b o len cap : Nat} {e sz by' : Nat} {zz : List Value} {k' k'' : IntKind} {j jm : Int} {hi mx : Nat} (hx : evF fr x = some (.slice (some ⟨b, o, none⟩) len cap)) (hz : evF fr z = some (.int k' j)) (hq : evF fr q = some (.int k'' jm))
    [ht : SliceT P t e sz by' zz] [hh : ToN j hi] [hm : ToN jm mx] (h2 : hi ≤ mx) (h3 : mx ≤ cap) :
    Yld P g L fr ⟨d, .slice t x none (some z) (some q), ty, pos, af, gd⟩ (.slice (some ⟨b, o, none⟩) hi mx) := fun n a w hf _ => by
  obtain ⟨hu, inf, zv, hin, hs, _, _, _⟩ := sliceQ_spec ht.eq
  have hsz := run_sizeOf (P := P) (by rw [size_of_info hin, hs] : sizeQ P e = some sz) w
  simp only [execOp, hf.ev hx, hf.ev hz, hf.ev hq, Option.map_some, Option.map_none, Instr.sliceAt, Instr.slice, Instr.sliceBounds, Sem.run_bind, run_underlying' hu, Result.andThen_ok, run_sliceBound' hm.eq h3, run_sliceBound' hh.eq h2, hsz, Sem.run_pure]
  by_cases e : mx = 0 <;> simp [e, Addr.add]
theorem Yld.sliceL {x y : Operand} {t b o len cap : Nat} {e sz by' : Nat} {zz : List Value} {k : IntKind} {i : Int} {lo : Nat} (hx : evF fr x = some (.slice (some ⟨b, o, none⟩) len cap)) (hy : evF fr y = some (.int k i))
    [ht : SliceT P t e sz by' zz] [hl : ToN i lo] (h1 : lo ≤ len) :
    Yld P g L fr ⟨d, .slice t x (some y) none none, ty, pos, af, gd⟩ (.slice (if cap = lo then some ⟨b, o, none⟩ else some ⟨b, o + lo * sz, none⟩) (len - lo) (cap - lo)) := fun n a w hf _ => by
  obtain ⟨hu, inf, zv, hin, hs, _, _, _⟩ := sliceQ_spec ht.eq
  have hsz := run_sizeOf (P := P) (by rw [size_of_info hin, hs] : sizeQ P e = some sz) w
  have hadd : ∀ q, (Addr.add ⟨b, o, none⟩ q) = ⟨b, o + q, none⟩ := fun q => by by_cases e : q = 0 <;> simp [Addr.add, e]
  simp only [execOp, hf.ev hx, hf.ev hy, Option.map_some, Option.map_none, Instr.sliceAt, Instr.slice, Instr.sliceBounds, Sem.run_bind, run_underlying' hu, Result.andThen_ok, run_sliceBound' hl.eq h1, hsz, Sem.run_pure, hadd]

/-! A string cut. -/
theorem Yld.cutLH {x y z : Operand} {t : Nat} {s : ByteArray} {k k' : IntKind} {i j : Int} {lo hi : Nat} (hx : evF fr x = some (.string s)) (hy : evF fr y = some (.int k i)) (hz : evF fr z = some (.int k' j))
    [ht : UndT P t .string] [hl : ToN i lo] [hh : ToN j hi] (h1 : lo ≤ hi) (h2 : hi ≤ s.size) : Yld P g L fr ⟨d, .slice t x (some y) (some z) none, ty, pos, af, gd⟩ (.string (s.extract lo hi)) := fun n a w hf _ => by
  simp [execOp, hf.ev hx, hf.ev hy, hf.ev hz, Instr.sliceAt, Instr.slice, Instr.sliceBounds, run_underlying' ht.eq, run_sliceBound' hh.eq h2, run_sliceBound' hl.eq h1]
theorem Yld.cutL {x y : Operand} {t : Nat} {s : ByteArray} {k : IntKind} {i : Int} {lo : Nat} (hx : evF fr x = some (.string s)) (hy : evF fr y = some (.int k i))
    [ht : UndT P t .string] [hl : ToN i lo] (h1 : lo ≤ s.size) : Yld P g L fr ⟨d, .slice t x (some y) none none, ty, pos, af, gd⟩ (.string (s.extract lo s.size)) := fun n a w hf _ => by
  simp [execOp, hf.ev hx, hf.ev hy, Instr.sliceAt, Instr.slice, Instr.sliceBounds, run_underlying' ht.eq, run_sliceBound' hl.eq h1]
theorem Yld.cutH {x z : Operand} {t : Nat} {s : ByteArray} {k' : IntKind} {j : Int} {hi : Nat} (hx : evF fr x = some (.string s)) (hz : evF fr z = some (.int k' j))
    [ht : UndT P t .string] [hh : ToN j hi] (h2 : hi ≤ s.size) : Yld P g L fr ⟨d, .slice t x none (some z) none, ty, pos, af, gd⟩ (.string (s.extract 0 hi)) := fun n a w hf _ => by
  simp [execOp, hf.ev hx, hf.ev hz, Instr.sliceAt, Instr.slice, Instr.sliceBounds, run_underlying' ht.eq, run_sliceBound' hh.eq h2]

/-! ### Maps with integer keys -/
/-- The entries, in order, read as pairs. -/
def MapIs (k : IntKind) (es : Array MapEntry) (l : List (Int × Value)) : Prop := es.toList.map (fun e => (e.key, e.val)) = l.map fun p => (.int k p.1, p.2)
def getI (l : List (Int × Value)) (i : Int) : Option Value := (l.find? fun p => p.1 == i).map (·.2)
def putI : List (Int × Value) → Int → Value → List (Int × Value)
  | [], i, v => [(i, v)]
  | p :: r, i, v => if p.1 == i then (i, v) :: r else p :: putI r i v
def delI : List (Int × Value) → Int → List (Int × Value)
  | [], _ => []
  | p :: r, i => if p.1 == i then r else p :: delI r i

theorem findNow_ints {k : IntKind} {i : Int} {dd : IntKind} : ∀ (es : List MapEntry) (l : List (Int × Value)) (j : Nat), es.map (fun e => (e.key, e.val)) = l.map (fun p => (.int k p.1, p.2)) →
    Instr.findNow (.int dd) (.int k i) es j = some ((l.findIdx? fun p => p.1 == i).map fun q => (j + q, ((l[q]?).map (·.2)).getD .nilFunc))
  | [], [], j, _ => by simp [Instr.findNow]
  | [], _ :: _, _, h => by simp at h
  | _ :: _, [], _, h => by simp at h
  | e :: es, p :: l, j, h => by
    simp only [List.map_cons, List.cons.injEq, Prod.mk.injEq] at h
    obtain ⟨⟨h1, h2⟩, h3⟩ := h
    have ih := findNow_ints (dd := dd) (i := i) es l (j + 1) h3
    have hsame : Instr.sameNow (.int dd) (.int k i) e.key = some (i == p.1) := by rw [h1]; simp [Instr.sameNow]
    simp only [Instr.findNow, hsame, List.findIdx?_cons]
    by_cases e' : p.1 = i
    · simp [e', h2]
    · have : (i == p.1) = false := by simpa using fun h => e' h.symm
      have e'' : (p.1 == i) = false := by simpa using e'
      simp only [this, e'', ih]
      cases l.findIdx? (fun p => p.1 == i) with
      | none => simp
      | some q => simp [Nat.add_assoc, Nat.add_comm 1]

theorem findIdx_getI (l : List (Int × Value)) (i : Int) : ((l.findIdx? fun p => p.1 == i).map fun q => ((l[q]?).map (·.2)).getD .nilFunc) = getI l i := by
  induction l with
  | nil => simp [getI]
  | cons p l ih =>
    simp only [List.findIdx?_cons, getI, List.find?_cons]
    by_cases e : p.1 == i
    · simp [e]
    · simp only [e]
      rw [show Option.map (fun x => x.2) (List.find? (fun p => p.1 == i) l) = getI l i from rfl, ← ih]
      cases l.findIdx? (fun p => p.1 == i) <;> simp

theorem checkKey_int' (m : Nat) {kt : TypeId} {dd k : IntKind} {em : Bool} {i : Int} (h : P.underlying kt = some (.int dd)) (w : World) : (Instr.checkKey em (m + 1) kt (.int k i)).run P w = .ok () w := by
  simp [Instr.checkKey, run_underlying' h]
theorem checkKey_int {kt : TypeId} {dd k : IntKind} {em : Bool} {i : Int} (h : P.underlying kt = some (.int dd)) (w : World) : (Instr.checkKey em 10000 kt (.int k i)).run P w = .ok () w := checkKey_int' 9999 h w

theorem mapQ_spec {t ke e : Nat} {dd : TypeDesc} (h : mapQ P t = some (ke, e, dd)) : P.underlying t = some (.map ke e) ∧ P.underlying ke = some dd := by
  unfold mapQ at h
  split at h
  · rename_i k' e' hu
    split at h
    · rename_i d' hk
      simp only [Option.some.injEq, Prod.mk.injEq] at h
      obtain ⟨rfl, rfl, rfl⟩ := h
      exact ⟨hu, hk⟩
    · cases h
  · cases h

theorem run_findKey {ke : TypeId} {dd k : IntKind} {i : Int} {es : Array MapEntry} {l : List (Int × Value)} (hk : P.underlying ke = some (.int dd)) (hm : MapIs k es l) (w : World) :
    (Instr.findKey ke (.int k i) es.toList).run P w = .ok ((l.findIdx? fun p => p.1 == i).map fun q => (q, ((l[q]?).map (·.2)).getD .nilFunc)) w := by
  have := findNow_ints (dd := dd) (i := i) es.toList l 0 hm
  simp only [Nat.zero_add] at this
  simp [Instr.findKey, run_underlying' hk, this]

/-- A block that is a map. -/
class IsMap (o : Obj) (es : outParam (Array MapEntry)) (c : outParam Nat) : Prop where
  eq : o = .map es c
instance (es : Array MapEntry) (c : Nat) : IsMap (.map es c) es c := ⟨rfl⟩

class ZeroV (P : Program) (t : Nat) (v : outParam Value) : Prop where
  eq : ((P.info? t).bind (·.zero)) = some v
theorem ZeroV.run {t : Nat} {v : Value} (h : ZeroV P t v) (w : World) : (zeroValue t).run P w = .ok v w := by
  have h' := h.eq
  cases hi : P.info? t with
  | none => simp [hi] at h'
  | some i => simp only [hi, Option.bind_some] at h'; exact run_zeroValue hi h' w

theorem Yld.lookup {x y : Operand} {t b : Nat} {ke e : Nat} {dd k : IntKind} {i : Int} {es : Array MapEntry} {c : Nat} {zv : Value} {l : List (Int × Value)} (hx : evF fr x = some (.map (some b))) (hy : evF fr y = some (.int k i))
    [hm : MapT P t ke e (.int dd)] [hf : FndR b (.map es c) L] (hl : MapIs k es l) [hz : ZeroV P e zv] {v : Value} (hv : (getI l i).getD zv = v) :
    Yld P g L fr ⟨d, .lookup t x y false, ty, pos, af, gd⟩ v := fun n a w hfr hs => by
  obtain ⟨hu, hk⟩ := mapQ_spec hm.eq
  have hb : w.heap[b]? = some (.map es c) := hs.holds _ hf.mem
  have hg : (getObj b).run P w = .ok (.map es c) w := by simp [getObj, Sem.run, hb]
  have hfk := run_findKey (i := i) hk hl w
  simp only [execOp, hfr.ev hx, hfr.ev hy, Instr.lookup, Sem.run_bind, run_underlying' hu, Result.andThen_ok, hg, Sem.run_pure, checkKey_int hk, hfk]
  rw [← findIdx_getI] at hv
  cases hq : l.findIdx? (fun p => p.1 == i) with
  | none => simp [hq] at hv; simp [hz.run, hv]
  | some q => simp [hq] at hv; simp [hv]

theorem Yld.lenMap {x : Operand} {t b : Nat} {ke e : Nat} {dd : TypeDesc} {es : Array MapEntry} {c : Nat} {k : IntKind} {l : List (Int × Value)} (hx : evF fr x = some (.map (some b))) [hm : MapT P t ke e dd] [hf : FndR b (.map es c) L] (hl : MapIs k es l) :
    Yld P g L fr ⟨d, .call ⟨.builtin .len, #[x], #[t]⟩, ty, pos, af, gd⟩ (.int .i64 l.length) := fun n a w hfr hs => by
  obtain ⟨hu, hk⟩ := mapQ_spec hm.eq
  have hb : w.heap[b]? = some (.map es c) := hs.holds _ hf.mem
  have hg : (getObj b).run P w = .ok (.map es c) w := by simp [getObj, Sem.run, hb]
  have hlen : es.size = l.length := by have := congrArg List.length hl; simpa using this
  simp [execOp, resolve, invoke, builtin, Builtin.len_, hfr.ev hx, run_underlying' hu, goInt, hg, hlen]

theorem putI_of_idx {l : List (Int × Value)} {i : Int} {v : Value} : putI l i v = match l.findIdx? (fun p => p.1 == i) with
    | some q => l.set q (i, v)
    | none => l ++ [(i, v)] := by
  induction l with
  | nil => simp [putI]
  | cons p l ih =>
    simp only [putI, List.findIdx?_cons]
    by_cases e : p.1 == i
    · simp [e]
    · simp only [e, ih]
      cases l.findIdx? (fun p => p.1 == i) <;> simp

theorem opw_mapUpdate {x y z : Operand} {t b : Nat} {ke e : Nat} {dd k : IntKind} {i : Int} {v : Value} {es : Array MapEntry} {c : Nat} {l : List (Int × Value)} {rest : List Chunk} {up : Obj → List Chunk} (hx : evF fr x = some (.map (some b))) (hy : evF fr y = some (.int k i)) (hz : evF fr z = some v)
    [hm : MapT P t ke e (.int dd)] [hf : FndB b (.map es c) L rest up] (hl : MapIs k es l) (h : ∀ es' c', MapIs k es' (putI l i v) → Nx g n fr (up (.map es' c')) K) :
    Opw P g n fr L ⟨none, .mapUpdate t x y z, ty, pos, af, gd⟩ K Q := by
  intro a w s
  obtain ⟨hu, hk⟩ := mapQ_spec hm.eq
  have hb : w.heap[b]? = some (.map es c) := (s.sat.perm hf.perm).holds (b, _) (by simp)
  have hg : (getObj b).run P w = .ok (.map es c) w := by simp [getObj, Sem.run, hb]
  have hset : ∀ o, (setObj b o).run P w = .ok () { w with heap := w.heap.setIfInBounds b o } := fun o => by simp [setObj, Sem.run, hb]
  have hfk := run_findKey (i := i) hk hl w
  have fin : ∀ es' c', MapIs k es' (putI l i v) → (execOp a.eval ⟨none, .mapUpdate t x y z, ty, pos, af, gd⟩).run P w = .ok .skip { w with heap := w.heap.setIfInBounds b (.map es' c') } →
      Oper.wp P ⟨none, .mapUpdate t x y z, ty, pos, af, gd⟩ a w K Q := by
    intro es' c' hm' hrun
    unfold Oper.wp
    rw [hrun]
    exact h es' c' hm' _ _ ⟨s.fr, s.sat.put_cells hf rfl rfl rfl rfl⟩
  have hput := putI_of_idx (l := l) (i := i) (v := v)
  cases hq : l.findIdx? (fun p => p.1 == i) with
  | none =>
    rw [hq] at hput hfk
    refine fin (es.push { key := .int k i, val := v, born := c }) (c + 1) ?_ ?_
    · rw [hput]
      have h2 : es.toList.map (fun e => (e.key, e.val)) = l.map fun p => (.int k p.1, p.2) := hl
      simp [MapIs, h2]
    · simp [execOp, s.fr.ev hx, s.fr.ev hy, s.fr.ev hz, Instr.mapUpdate, run_underlying' hu, hg, checkKey_int hk, hfk, hset]
  | some q =>
    rw [hq] at hput hfk
    have hql : q < l.length := (List.findIdx?_eq_some_iff_getElem.1 hq).1
    have hqk : (l[q].1 == i) = true := (List.findIdx?_eq_some_iff_getElem.1 hq).2.1
    have h2 : es.toList.map (fun e => (e.key, e.val)) = l.map fun p => (.int k p.1, p.2) := hl
    have hsz : es.size = l.length := by have := congrArg List.length h2; simpa using this
    have hqe : q < es.size := by omega
    have hkey : es[q].key = .int k i := by
      have h3 := congrArg (fun z => z[q]?) h2
      simp [hqe, hql] at h3
      rw [h3.1]
      simp at hqk
      rw [hqk]
    refine fin (es.modify q fun e => { e with key := .int k i, val := v }) c ?_ ?_
    · rw [hput]
      unfold MapIs
      simp only []
      apply List.ext_getElem?
      intro j
      have h4 := congrArg (fun z => z[j]?) h2
      simp only [List.getElem?_map, Array.getElem?_toList] at h4
      by_cases e1 : q = j
      · subst e1
        simp [hqe, hql]
      · simp [e1, h4]
    · have hst : (Instr.keyThatStays (.int k i) (.int k i)).run P w = .ok (.int k i) w := by simp [Instr.keyThatStays, Instr.sameBits]
      simp [execOp, s.fr.ev hx, s.fr.ev hy, s.fr.ev hz, Instr.mapUpdate, run_underlying' hu, hg, checkKey_int hk, hfk, hset, hqe, hkey, hst]

theorem opw_insert {x y z : Operand} {t b : Nat} {ke e : Nat} {dd k : IntKind} {i : Int} {v : Value} {es : Array MapEntry} {c : Nat} {l : List (Int × Value)} {rest : List Chunk} {up : Obj → List Chunk} (hx : evF fr x = some (.map (some b))) (hy : evF fr y = some (.int k i)) (hz : evF fr z = some v)
    [hm : MapT P t ke e (.int dd)] [hf : FndB b (.map es c) L rest up] (hl : MapIs k es l) (h : ∀ es' c', MapIs k es' (putI l i v) → Nx g n fr (up (.map es' c')) K) :
    Opw P g n fr L ⟨none, .insert t x y z, ty, pos, af, gd⟩ K Q := fun a w s => by
  have h2 := opw_mapUpdate (ty := ty) (pos := pos) (af := af) (gd := gd) (K := K) (Q := Q) hx hy hz (hm := hm) (hf := hf) hl h a w s
  unfold Oper.wp at h2 ⊢
  exact h2

theorem delI_of_idx {l : List (Int × Value)} {i : Int} : delI l i = match l.findIdx? (fun p => p.1 == i) with
    | some q => l.eraseIdx q
    | none => l := by
  induction l with
  | nil => simp [delI]
  | cons p l ih =>
    simp only [delI, List.findIdx?_cons]
    by_cases e : p.1 == i
    · simp [e]
    · simp only [e, ih]
      cases l.findIdx? (fun p => p.1 == i) <;> simp

theorem map_eraseIdx' {α β : Type} (f : α → β) : ∀ (l : List α) (q : Nat), (l.eraseIdx q).map f = (l.map f).eraseIdx q
  | [], _ => rfl
  | _ :: _, 0 => rfl
  | x :: l, q + 1 => by simp [map_eraseIdx' f l q]

theorem opw_delete {x y : Operand} {t t' b : Nat} {ke e : Nat} {dd k : IntKind} {i : Int} {es : Array MapEntry} {c : Nat} {l : List (Int × Value)} {rest : List Chunk} {up : Obj → List Chunk} (hx : evF fr x = some (.map (some b))) (hy : evF fr y = some (.int k i))
    [hm : MapT P t ke e (.int dd)] [hf : FndB b (.map es c) L rest up] (hl : MapIs k es l) (hd : dstLt n d = true) (h : ∀ es' c', MapIs k es' (delI l i) → Nx g n (setd fr d undef) (up (.map es' c')) K) :
    Opw P g n fr L ⟨d, .call ⟨.builtin .delete, #[x, y], #[t, t']⟩, ty, pos, af, gd⟩ K Q := by
  intro a w s
  obtain ⟨hu, hk⟩ := mapQ_spec hm.eq
  have hb : w.heap[b]? = some (.map es c) := (s.sat.perm hf.perm).holds (b, _) (by simp)
  have hg : (getObj b).run P w = .ok (.map es c) w := by simp [getObj, Sem.run, hb]
  have hset : ∀ o, (setObj b o).run P w = .ok () { w with heap := w.heap.setIfInBounds b o } := fun o => by simp [setObj, Sem.run, hb]
  have hfk := run_findKey (i := i) hk hl w
  have fin : ∀ es' c', MapIs k es' (delI l i) → (execOp a.eval ⟨d, .call ⟨.builtin .delete, #[x, y], #[t, t']⟩, ty, pos, af, gd⟩).run P w = .ok (.value undef) { w with heap := w.heap.setIfInBounds b (.map es' c') } →
      Oper.wp P ⟨d, .call ⟨.builtin .delete, #[x, y], #[t, t']⟩, ty, pos, af, gd⟩ a w K Q := by
    intro es' c' hm' hrun
    unfold Oper.wp
    rw [hrun]
    exact h es' c' hm' _ _ ⟨s.fr.setd hd undef, s.sat.put_cells hf rfl rfl rfl rfl⟩
  have hdel := delI_of_idx (l := l) (i := i)
  have h2 : es.toList.map (fun e => (e.key, e.val)) = l.map fun p => (.int k p.1, p.2) := hl
  cases hq : l.findIdx? (fun p => p.1 == i) with
  | none =>
    rw [hq] at hdel hfk
    refine fin es c (by rw [hdel]; exact hl) ?_
    simp [execOp, resolve, invoke, builtin, Builtin.delete_, s.fr.ev hx, s.fr.ev hy, run_underlying' hu, hg, checkKey_int hk, hfk, hset, undef]
  | some q =>
    rw [hq] at hdel hfk
    refine fin (es.eraseIdxIfInBounds q) c ?_ ?_
    · rw [hdel]
      unfold MapIs
      have e1 : (es.eraseIdxIfInBounds q).toList = es.toList.eraseIdx q := by simp [Array.toList_eraseIdxIfInBounds]
      rw [e1, map_eraseIdx', h2, ← map_eraseIdx']
    · simp [execOp, resolve, invoke, builtin, Builtin.delete_, s.fr.ev hx, s.fr.ev hy, run_underlying' hu, hg, checkKey_int hk, hfk, hset, undef]
end
end Go.SL

namespace Go.SL
set_option linter.unusedVariables false
open Go.RowKit
section
variable {P : Program} {g : Gh} {n : Nat} {fr : List (Nat × Value)} {L : List Chunk} {d : Option Tmp} {ty : TypeId} {pos : String} {af : Array Edge} {gd : Option (Nat × Bool)} {K : Act → World → Prop} {Q : Exit → Act → World → Prop}

theorem Yld.eqSlNil {x y : Operand} {a : Option Addr} {l c l' c' : Nat} {t t' : TypeId} {e sz by' : Nat} {z : List Value} (hx : evF fr x = some (.slice a l c)) (hy : evF fr y = some (.slice none l' c')) [ht : SliceT P t e sz by' z] :
    Yld P g L fr ⟨d, .binOp .eql t x y t', ty, pos, af, gd⟩ (.bool a.isNone) := fun n act w hf _ => by
  simp only [execOp, hf.ev hx, hf.ev hy, eqGuard_at_slice, Sem.run_bind, Sem.run_pure, Result.andThen_ok, Lib.run_eql_slice_nil w t e a l c l' c' (sliceQ_spec ht.eq).1]

theorem Yld.makeFunc {f : Fn} {xs ys : List Operand} {vs us : List Value} (hx : evsF fr xs = some vs) (hy : evsF fr ys = some us) : Yld P g L fr ⟨d, .makeFunc f xs.toArray ys.toArray, ty, pos, af, gd⟩ (.func f vs.toArray us.toArray) := fun n a w hf _ => by
  simp [execOp, Instr.makeFunc, hf.evs hx, hf.evs hy]

theorem opw_append0 {q : Tmp} {x y : Operand} {t : TypeId} {e sz by' : Nat} {z : List Value} {v : Value} {m c0 : Nat} {xs : List Value} {c : Chunk} (hx : evF fr x = some v) (hy : evF fr y = some (.slice none 0 c0)) [ht : SliceT P t e sz by' z]
    (hown : Own e sz v m xs c) (hd : Nat.blt q n = true) (h : Nx g n ((q, v) :: fr) L K) : Opw P g n fr L ⟨some q, .call ⟨.builtin .append, #[x, y], #[t, t]⟩, ty, pos, af, gd⟩ K Q := by
  intro a w s
  obtain ⟨hu, i, zv, hi, hs, hb, hzv, hcz⟩ := sliceQ_spec ht.eq
  have hrun : (Builtin.append_ #[t, t] ty #[v, .slice none 0 c0]).run P w = .ok v w := by
    rcases hown.2 with ⟨rfl, rfl, rfl⟩ | ⟨b, cap, tl, rfl, rfl, hmc, hcm, htl⟩
    · simp [Builtin.append_, run_underlying hu, sizeOf, typeInfo, hi, Builtin.lenOf, Builtin.firstCells]
    · simp [Builtin.append_, run_underlying hu, sizeOf, typeInfo, hi, Builtin.lenOf, Builtin.firstCells, hmc, storeCells]
  unfold Oper.wp
  have e1 : (execOp a.eval ⟨some q, .call ⟨.builtin .append, #[x, y], #[t, t]⟩, ty, pos, af, gd⟩).run P w = .ok (.value v) w := by
    simp [execOp, resolve, invoke, builtin, s.fr.ev hx, s.fr.ev hy, hrun]
  rw [e1]
  exact h _ _ ⟨s.fr.putB hd v, s.sat⟩

/-! ### Conversions -/
theorem Yld.conv {x : Operand} {t t' : TypeId} {k k' : IntKind} {i : Int} (hx : evF fr x = some (.int k i)) [h : UndT P t (.int k)] [h' : UndT P t' (.int k')] : Yld P g L fr ⟨d, .convert t t' x, ty, pos, af, gd⟩ (.int k' (k'.wrap i)) := fun n a w hf _ => by
  simp [execOp, hf.ev hx, convert, run_underlying' h.eq, run_underlying' h'.eq, Conv.intToInt]

def bytesV (l : List UInt8) : List Value := l.map fun c => .int .u8 c.toNat
@[simp] theorem bytesV_length (l : List UInt8) : (bytesV l).length = l.length := by simp [bytesV]
theorem bytesV_append (l r : List UInt8) : bytesV (l ++ r) = bytesV l ++ bytesV r := by simp [bytesV]
theorem bytesV_one (l : List UInt8) : ∀ u ∈ bytesV l, u.oneCell' = true := by
  intro u hu
  obtain ⟨c, _, rfl⟩ := List.mem_map.1 hu
  rfl
theorem Yld.bytesString {x : Operand} {t t' : TypeId} {b o m cap : Nat} {e sz by' e' : Nat} {z cs : List Value} {z' : Nat × Nat} {l : List UInt8} (hx : evF fr x = some (.slice (some ⟨b, o, none⟩) m cap)) [h : SliceT P t e sz by' z] [he : UndT P e (.int .u8)] [h' : UndT P t' .string]
    [hr : FndR b (.cells cs.toArray e' z') L] (hl : (cs.drop o).take m = bytesV l) (hm : m = l.length) : Yld P g L fr ⟨d, .convert t t' x, ty, pos, af, gd⟩ (.string ⟨l.toArray⟩) := fun n a w hf hs => by
  subst hm
  have hu := (sliceQ_spec h.eq).1
  have hc := hs.cells_at (vs := bytesV l) hr.mem (by simpa using hl)
  have hrun := run_convert_bytes_back (P := P) w t t' e ⟨b, o, none⟩ cap l hu he.eq h'.eq (fun j hj => hc j _ (by simp [bytesV, List.getElem?_eq_getElem hj]))
  simp [execOp, hf.ev hx, hrun]
theorem Yld.bytesStringNil {x : Operand} {t t' : TypeId} {m cap : Nat} {e sz by' : Nat} {z : List Value} (hx : evF fr x = some (.slice none m cap)) [h : SliceT P t e sz by' z] [he : UndT P e (.int .u8)] [h' : UndT P t' .string] :
    Yld P g L fr ⟨d, .convert t t' x, ty, pos, af, gd⟩ (.string ⟨#[]⟩) := fun n a w hf hs => by
  have hu := (sliceQ_spec h.eq).1
  have hrun : (convert t t' (.slice none m cap)).run P w = .ok (.string .empty) w := by
    rw [run_convert_bytes_string w t t' e none m cap hu he.eq h'.eq]; rfl
  simp [execOp, hf.ev hx, hrun]
  rfl

theorem opw_bytesOf {q : Tmp} {x : Operand} {t t' : TypeId} {e sz by' : Nat} {z : List Value} {s : ByteArray} (hx : evF fr x = some (.string s)) [h : SliceT P t' e sz by' z] [he : UndT P e (.int .u8)] [h' : UndT P t .string] (hd : Nat.blt q n = true)
    (hk : ∀ b cap tl z', s.size ≤ cap → (bytesV s.data.toList ++ tl).length = cap → z'.1 = cap → Nx g n ((q, .slice (some ⟨b, 0, none⟩) s.size cap) :: fr) ([(b, .cells (bytesV s.data.toList ++ tl).toArray e z')] :: L) K) :
    Opw P g n fr L ⟨some q, .convert t t' x, ty, pos, af, gd⟩ K Q := by
  intro a w st
  have hu := (sliceQ_spec h.eq).1
  have hrun := run_bytes_of_string (P := P) w t t' e s h'.eq hu he.eq
  unfold Oper.wp
  have e1 : (execOp a.eval ⟨some q, .convert t t' x, ty, pos, af, gd⟩).run P w = .ok (.value (.slice (some ⟨w.heap.size, 0, none⟩) s.size (grownCap w s.size 0 e)))
      (w.drew.alloc (.cells (bytesRow s (grownCap w s.size 0 e)) e ((bytesRow s (grownCap w s.size 0 e)).size, (bytesRow s (grownCap w s.size 0 e)).size + 1))) := by
    simp [execOp, st.fr.ev hx, hrun]
  rw [e1]
  have hge : s.size ≤ grownCap w s.size 0 e := grownCap_ge w s.size 0 e
  have e2 : bytesRow s (grownCap w s.size 0 e) = (bytesV s.data.toList ++ List.replicate (grownCap w s.size 0 e - s.size) (Value.int .u8 0)).toArray := by
    apply Array.ext'
    simp [bytesRow, bytesV]
  have hlen : (bytesV s.data.toList ++ List.replicate (grownCap w s.size 0 e - s.size) (Value.int .u8 0)).length = grownCap w s.size 0 e := by
    simp; omega
  have hb : (bytesRow s (grownCap w s.size 0 e)).size = grownCap w s.size 0 e := by rw [e2]; simpa using hlen
  refine hk w.heap.size (grownCap w s.size 0 e) (List.replicate (grownCap w s.size 0 e - s.size) (Value.int .u8 0)) ((bytesRow s (grownCap w s.size 0 e)).size, (bytesRow s (grownCap w s.size 0 e)).size + 1) hge hlen hb _ _ ⟨st.fr.putB hd _, ?_⟩
  have := st.sat.alloc_drew (.cells (bytesRow s (grownCap w s.size 0 e)) e ((bytesRow s (grownCap w s.size 0 e)).size, (bytesRow s (grownCap w s.size 0 e)).size + 1))
  rw [← e2]
  exact this
/-! More arithmetic. -/
theorem Yld.rem {x y : Operand} {k : IntKind} {i j : Int} {t t' : TypeId} (hx : evF fr x = some (.int k i)) (hy : evF fr y = some (.int k j)) (hj : j ≠ 0) :
    Yld P g L fr ⟨d, .binOp .rem t x y t', ty, pos, af, gd⟩ (.int k (i.tmod j)) := fun n a w hf _ => by simp [execOp, hf.ev hx, hf.ev hy, eqGuard, binOp, Op.intDiv, hj]
theorem Yld.quo {x y : Operand} {k : IntKind} {i j : Int} {t t' : TypeId} (hx : evF fr x = some (.int k i)) (hy : evF fr y = some (.int k j)) (hj : j ≠ 0) :
    Yld P g L fr ⟨d, .binOp .quo t x y t', ty, pos, af, gd⟩ (.int k (k.wrap (i.tdiv j))) := fun n a w hf _ => by simp [execOp, hf.ev hx, hf.ev hy, eqGuard, binOp, Op.intDiv, hj]
def bitsI (op : BinOp) (k : IntKind) (x y : Int) : Option Int := match op with
  | .and => some (k.wrap ((BitVec.ofInt k.bits x &&& BitVec.ofInt k.bits y).toNat))
  | .or => some (k.wrap ((BitVec.ofInt k.bits x ||| BitVec.ofInt k.bits y).toNat))
  | .xor => some (k.wrap ((BitVec.ofInt k.bits x ^^^ BitVec.ofInt k.bits y).toNat))
  | .andNot => some (k.wrap ((BitVec.ofInt k.bits x &&& ~~~(BitVec.ofInt k.bits y)).toNat))
  | _ => none
theorem Yld.bits {x y : Operand} {k : IntKind} {i j r : Int} {op : BinOp} {t t' : TypeId} (hx : evF fr x = some (.int k i)) (hy : evF fr y = some (.int k j)) (hr : bitsI op k i j = some r) :
    Yld P g L fr ⟨d, .binOp op t x y t', ty, pos, af, gd⟩ (.int k r) := fun n a w hf _ => by
  cases op <;> simp only [bitsI] at hr <;> first
    | (cases hr; done)
    | (simp only [Option.some.injEq] at hr; subst hr; simp [execOp, hf.ev hx, hf.ev hy, eqGuard, binOp, Op.intBits])
theorem Yld.shl {x y : Operand} {k k' : IntKind} {i j : Int} {t t' : TypeId} (hx : evF fr x = some (.int k i)) (hy : evF fr y = some (.int k' j)) (hj : 0 ≤ j) :
    Yld P g L fr ⟨d, .binOp .shl t x y t', ty, pos, af, gd⟩ (.int k (k.wrap (i * 2 ^ (min j.toNat k.bits)))) := fun n a w hf _ => by
  have : ¬ j < 0 := by omega
  simp [execOp, hf.ev hx, hf.ev hy, eqGuard, binOp, Op.shift, this]
theorem Yld.shr {x y : Operand} {k k' : IntKind} {i j : Int} {t t' : TypeId} (hx : evF fr x = some (.int k i)) (hy : evF fr y = some (.int k' j)) (hj : 0 ≤ j) :
    Yld P g L fr ⟨d, .binOp .shr t x y t', ty, pos, af, gd⟩ (.int k (i.fdiv (2 ^ (min j.toNat k.bits)))) := fun n a w hf _ => by
  have : ¬ j < 0 := by omega
  simp [execOp, hf.ev hx, hf.ev hy, eqGuard, binOp, Op.shift, this]
theorem Yld.neg {x : Operand} {k : IntKind} {i : Int} {t : TypeId} (hx : evF fr x = some (.int k i)) : Yld P g L fr ⟨d, .unOp .neg t x, ty, pos, af, gd⟩ (.int k (k.wrap (0 - i))) := fun n a w hf _ => by
  simp [execOp, hf.ev hx, Op.unary, Op.intArith]
theorem Yld.compl {x : Operand} {k : IntKind} {i : Int} {t : TypeId} (hx : evF fr x = some (.int k i)) : Yld P g L fr ⟨d, .unOp .xor t x, ty, pos, af, gd⟩ (.int k (k.wrap ((BitVec.ofInt k.bits (if k.signed then -1 else k.max) ^^^ BitVec.ofInt k.bits i).toNat))) := fun n a w hf _ => by
  simp [execOp, hf.ev hx, Op.unary, Op.intBits]
/-- A conversion to 64 signed bits of what lies there already. -/
theorem Yld.convI {x : Operand} {t t' : TypeId} {k : IntKind} {i : Int} (hx : evF fr x = some (.int k i)) (h1 : -9223372036854775808 ≤ i) (h2 : i ≤ 9223372036854775807) [h : UndT P t (.int k)] [h' : UndT P t' (.int .i64)] : Yld P g L fr ⟨d, .convert t t' x, ty, pos, af, gd⟩ (.int .i64 i) := by
  have := Yld.conv (P := P) (g := g) (L := L) (d := d) (ty := ty) (pos := pos) (af := af) (gd := gd) (t := t) (t' := t') (k' := .i64) hx
  rwa [wrap_i64 h1 h2] at this

/-! Results that lie in memory. -/
theorem loadVar_agg {w : World} {t b m : Nat} {l vs : List Value} {e : TypeId} {z : Nat × Nat} (hs : Sat g L w) [ht : AggT P t m] [h : FndR b (.cells l.toArray e z) L] [hv : SubL l 0 m vs] :
    (loadVar t ⟨b, 0, none⟩).run P w = .ok (.agg vs.toArray) w := by
  have h1 := agg_isAgg ht.eq w
  have h2 := hs.load_row (P := P) h.mem hv.eq.1 hv.eq.2
  simp [loadVar, h1.1, run_sizeOf h1.2, h2]
theorem resC2 {fn : Func} {F : Chunk} {post : Value → List Chunk → Prop} {e : Exit} (he : e = .ret ∨ e = .normal) {t u : Tmp} {ty : TypeId} (hr : fn.results = #[.cell t ty, .tmp u]) {b m : Nat} {l vs : List Value} {e' : TypeId} {z : Nat × Nat} {x : Value}
    (ht : look fr t = some (.pointer (some ⟨b, 0, none⟩))) (hx : look fr u = some x) [AggT P ty m] [FndR b (.cells l.toArray e' z) L] [SubL l 0 m vs]
    (B : List Chunk) {rest : List Chunk} (htk : Take (B ++ [F]) L rest) (hp : post (.tuple #[.agg vs.toArray, x]) B) :
    Nx g n fr L (kpost P [] (fnPost P fn g F post) e) := by
  intro a w s
  have ht' : a.tmps.getD t undef = .pointer (some ⟨b, 0, none⟩) := by simp [Array.getD_eq_getD_getElem?, s.fr.fr t _ ht]
  have hx' : a.tmps.getD u undef = x := by simp [Array.getD_eq_getD_getElem?, s.fr.fr u x hx]
  have hrun : (results fn a.tmps).run P w = .ok (.tuple #[.agg vs.toArray, x]) w := by
    rw [results_cell_tmp hr, ht', hx']
    simp [asAddr, loadVar_agg (P := P) (t := ty) (b := b) (vs := vs) s.sat]
  have : a.defers = [] ∧ ∃ v, (results fn a.tmps).run P w = .ok v w ∧ ∃ v' B, Ending.returned v = .returned v' ∧ post v' B ∧ Sat g (B ++ [F]) w :=
    ⟨s.fr.df, _, hrun, _, B, rfl, hp, s.sat.sub rest.flatten (by simpa using htk.perm.flatten)⟩
  rcases he with rfl | rfl <;> exact this
theorem resC1 {fn : Func} {F : Chunk} {post : Value → List Chunk → Prop} {e : Exit} (he : e = .ret ∨ e = .normal) {t : Tmp} {ty : TypeId} (hr : fn.results = #[.cell t ty]) {b m : Nat} {l vs : List Value} {e' : TypeId} {z : Nat × Nat}
    (ht : look fr t = some (.pointer (some ⟨b, 0, none⟩))) [AggT P ty m] [FndR b (.cells l.toArray e' z) L] [SubL l 0 m vs]
    (B : List Chunk) {rest : List Chunk} (htk : Take (B ++ [F]) L rest) (hp : post (.agg vs.toArray) B) :
    Nx g n fr L (kpost P [] (fnPost P fn g F post) e) := by
  intro a w s
  have ht' : a.tmps[t]?.getD undef = .pointer (some ⟨b, 0, none⟩) := by simp [s.fr.fr t _ ht]
  have hrun : (results fn a.tmps).run P w = .ok (.agg vs.toArray) w := by
    simp [results, hr, asAddr, ht', loadVar_agg (P := P) (t := ty) (b := b) (vs := vs) s.sat]
  have : a.defers = [] ∧ ∃ v, (results fn a.tmps).run P w = .ok v w ∧ ∃ v' B, Ending.returned v = .returned v' ∧ post v' B ∧ Sat g (B ++ [F]) w :=
    ⟨s.fr.df, _, hrun, _, B, rfl, hp, s.sat.sub rest.flatten (by simpa using htk.perm.flatten)⟩
  rcases he with rfl | rfl <;> exact this
end
end Go.SL

namespace Go.SL
attribute [irreducible] Nx Opw Yld Alc Sp kpost fnPost wk
end Go.SL

