/- The tree of files in memory: what its blocks are, and what the functions that only read it hand back. Conditions: the tree lies in the memory that is kept. -/
import Derived.Test.YtdobndclhbkooaaDoorSplit
namespace Go.Proofs.YtdobndclhbkooaaDoor
open Go Go.SL
set_option maxRecDepth 100000
set_option linter.unusedVariables false

structure Ent where
  name : ByteArray
  node : Int
  kind : Int
structure FileR where
  kind : Int
  mode : Int
  data : List UInt8
  ents : List Ent
  parent : Int
  links : Int
  held : Int

def entV (e : Ent) : List Value := [.string e.name, .int .i64 e.node, .int .i64 e.kind]
def entsV (l : List Ent) : List Value := l.flatMap entV
theorem entsV_length (l : List Ent) : (entsV l).length = l.length * 3 := by
  induction l with
  | nil => rfl
  | cons e l ih => simp [entsV, entV] at ih ⊢; omega

/-- A node in memory: its number, what it is, its block, its two slices with their arrays. -/
structure Nd where
  n : Int
  f : FileR
  b : Nat
  dv : Value
  ev : Value
  dc : Chunk
  ec : Chunk
def Nd.cells (x : Nd) : List Value := [.int .i64 x.f.kind, .int .i64 x.f.mode, x.dv, x.ev, .int .i64 x.f.parent, .int .i64 x.f.links, .int .i64 x.f.held]
def Nd.chunk (x : Nd) : Chunk := (x.b, .cells [.int .i64 x.f.kind, .int .i64 x.f.mode, x.dv, x.ev, .int .i64 x.f.parent, .int .i64 x.f.links, .int .i64 x.f.held].toArray 88 (0, 0)) :: (x.dc ++ x.ec)
structure Nd.ok (x : Nd) : Prop where
  data : Own 5 1 x.dv x.f.data.length (bytesV x.f.data) x.dc
  ents : Own 52 3 x.ev x.f.ents.length (entsV x.f.ents) x.ec
  small : x.f.ents.length < 1073741824 ∧ x.f.data.length ≤ 1048576

/-- A tree in memory: the block of its struct, of its map, the map's entries, the nodes. -/
structure Tr where
  t : Nat
  m : Nat
  es : Array MapEntry
  ck : Nat
  S : List Nd
  N : Nat
def ptrs (S : List Nd) : List (Int × Value) := S.map fun x => (x.n, .pointer (some ⟨x.b, 0, none⟩))
def Tr.head (T : Tr) : Chunk := [(T.t, .cells [.map (some T.m)].toArray 91 (0, 0)), (T.m, .map T.es T.ck)]
def Tr.chunk (T : Tr) : Chunk := T.head ++ T.S.flatMap Nd.chunk
structure Tr.ok (T : Tr) : Prop where
  map : MapIs .i64 T.es (ptrs T.S)
  nds : ∀ x ∈ T.S, x.ok
  cnt : T.S.length ≤ 1024
  big : ∀ x ∈ T.S, x.f.ents.length ≤ T.N
/-- The tree lies in F. -/
structure InT (F : Chunk) (T : Tr) : Prop where
  sub : ∀ y ∈ T.chunk, y ∈ F
  ok : T.ok

def fnd (S : List Nd) (n : Int) : Option Nd := S.find? fun x => x.n == n
def ptrO : Option Nd → Value
  | none => .pointer none
  | some x => .pointer (some ⟨x.b, 0, none⟩)
theorem getI_ptrs (S : List Nd) (n : Int) : getI (ptrs S) n = (fnd S n).map fun x => .pointer (some ⟨x.b, 0, none⟩) := by
  induction S with
  | nil => rfl
  | cons x S ih =>
    simp only [getI, ptrs, fnd, List.map_cons, List.find?_cons] at ih ⊢
    by_cases h : x.n == n
    · simp [h]
    · simp only [h]; exact ih
theorem getI_ptrO (S : List Nd) (n : Int) : (getI (ptrs S) n).getD (.pointer none) = ptrO (fnd S n) := by
  rw [getI_ptrs]; cases fnd S n <;> rfl
theorem fnd_mem {S : List Nd} {n : Int} {x : Nd} (h : fnd S n = some x) : x ∈ S ∧ x.n = n := by
  refine ⟨List.mem_of_find?_eq_some h, ?_⟩
  have := List.find?_some h
  simpa using this

section
variable {F : Chunk} {T : Tr}
theorem InT.tb (h : InT F T) : InC T.t (.cells [.map (some T.m)].toArray 91 (0, 0)) F := ⟨h.sub _ (by simp [Tr.chunk, Tr.head])⟩
theorem InT.mb (h : InT F T) : InC T.m (.map T.es T.ck) F := ⟨h.sub _ (by simp [Tr.chunk, Tr.head])⟩
theorem InT.nd (h : InT F T) {x : Nd} (hx : x ∈ T.S) : ∀ y ∈ x.chunk, y ∈ F := fun y hy => h.sub _ (by
  simp only [Tr.chunk, List.mem_append, List.mem_flatMap]
  exact .inr ⟨x, hx, hy⟩)
/-- A node that lies in F. -/
structure InN (F : Chunk) (x : Nd) : Prop where
  sub : ∀ y ∈ x.chunk, y ∈ F
  ok : x.ok
theorem InT.inN (h : InT F T) {x : Nd} (hx : x ∈ T.S) : InN F x := ⟨h.nd hx, h.ok.nds x hx⟩
theorem InN.blk {x : Nd} (h : InN F x) : InC x.b (.cells [.int .i64 x.f.kind, .int .i64 x.f.mode, x.dv, x.ev, .int .i64 x.f.parent, .int .i64 x.f.links, .int .i64 x.f.held].toArray 88 (0, 0)) F := ⟨h.sub _ (by simp [Nd.chunk])⟩

/-- get, of no tree. -/
theorem sp67n (n : Int) (F : Chunk) : Sp Tryd.prog 67 [.pointer none, .int .i64 n] F [] (fun v B => v = .pointer none ∧ B = []) := by
  refine sp_enter Tryd.func67 rfl Tryd.ntmps67 rfl (fun g => ?_)
  simp only [argFr, List.nil_append, Nat.reduceAdd]
  all_goals (refine nx_seq ?_; refine nx_region ?_; refine nx_op ?_; refine opw_yld (Yld.assign rfl) rfl ?_; refine nx_nil ?_; refine kp_code_normal ?_; refine nx_seq ?_; refine nx_seq ?_; refine nx_region ?_; refine nx_op ?_; refine opw_yld (Yld.move rfl) rfl ?_; refine nx_op ?_; refine opw_yld (Yld.eqNil rfl rfl) rfl ?_; refine nx_nil ?_; refine kp_code_normal ?_)
  all_goals (refine nx_cond rfl (fun hc => ?_) (fun hc => ?_))
  all_goals (first | (exact Bool.noConfusion (hc.symm.trans (by first | rfl | assumption) : true = false)) | (exact Bool.noConfusion (hc.symm.trans (by first | rfl | assumption) : false = true)) | (all_goals (refine nx_seq ?_; refine nx_region ?_; refine nx_op ?_; refine opw_yld (Yld.assign rfl) rfl ?_; refine nx_nil ?_; refine kp_code_normal ?_; refine nx_ret ?_; refine kp_code_ret ?_); all_goals (exact res1 (by first | exact .inl rfl | exact .inr rfl) Tryd.results67 rfl [] inferInstance ⟨rfl, rfl⟩)) | (all_goals refine nx_skip ?_))
  all_goals (refine kp_code_normal ?_; refine nx_seq ?_; refine nx_region ?_; refine nx_op ?_; refine opw_yld (Yld.move rfl) rfl ?_; refine nx_op ?_; refine opw_yld (Yld.nilCheck rfl) rfl ?_; refine nx_op ?_; refine opw_yld (Yld.fieldAddr rfl) rfl ?_; refine nx_op ?_; refine opw_yld (Yld.load rfl) rfl ?_; refine nx_op ?_; refine opw_yld (Yld.move rfl) rfl ?_; refine nx_op ?_; refine opw_yld (Yld.lookup rfl rfl (by assumption) rfl) rfl ?_; refine nx_op ?_; refine opw_yld (Yld.assign rfl) rfl ?_; refine nx_nil ?_; refine kp_code_normal ?_; refine nx_ret ?_)
  all_goals (exact res1 (by first | exact .inl rfl | exact .inr rfl) Tryd.results67 rfl [] inferInstance ⟨rfl, rfl⟩)

/-- get. -/
theorem sp67 (hT : InT F T) (n : Int) : Sp Tryd.prog 67 [.pointer (some ⟨T.t, 0, none⟩), .int .i64 n] F [] (fun v B => v = ptrO (fnd T.S n) ∧ B = []) := by
  have i1 := hT.tb
  have i2 := hT.mb
  have hm := hT.ok.map
  refine sp_enter Tryd.func67 rfl Tryd.ntmps67 rfl (fun g => ?_)
  simp only [argFr, List.nil_append, Nat.reduceAdd]
  all_goals (refine nx_seq ?_; refine nx_region ?_; refine nx_op ?_; refine opw_yld (Yld.assign rfl) rfl ?_; refine nx_nil ?_; refine kp_code_normal ?_; refine nx_seq ?_; refine nx_seq ?_; refine nx_region ?_; refine nx_op ?_; refine opw_yld (Yld.move rfl) rfl ?_; refine nx_op ?_; refine opw_yld (Yld.eqNil rfl rfl) rfl ?_; refine nx_nil ?_; refine kp_code_normal ?_)
  all_goals (refine nx_cond rfl (fun hc => ?_) (fun hc => ?_))
  all_goals (first | (exact Bool.noConfusion (hc.symm.trans (by first | rfl | assumption) : true = false)) | (exact Bool.noConfusion (hc.symm.trans (by first | rfl | assumption) : false = true)) | (all_goals (refine nx_seq ?_; refine nx_region ?_; refine nx_op ?_; refine opw_yld (Yld.assign rfl) rfl ?_; refine nx_nil ?_; refine kp_code_normal ?_; refine nx_ret ?_; refine kp_code_ret ?_); all_goals (exact res1 (by first | exact .inl rfl | exact .inr rfl) Tryd.results67 rfl [] inferInstance ⟨rfl, rfl⟩)) | (all_goals refine nx_skip ?_))
  all_goals (refine kp_code_normal ?_; refine nx_seq ?_; refine nx_region ?_; refine nx_op ?_; refine opw_yld (Yld.move rfl) rfl ?_; refine nx_op ?_; refine opw_yld (Yld.nilCheck rfl) rfl ?_; refine nx_op ?_; refine opw_yld (Yld.fieldAddr rfl) rfl ?_; refine nx_op ?_; refine opw_yld (Yld.load rfl) rfl ?_; refine nx_op ?_; refine opw_yld (Yld.move rfl) rfl ?_; refine nx_op ?_; refine opw_yld (Yld.lookup rfl rfl hm (getI_ptrO T.S n)) rfl ?_; refine nx_op ?_; refine opw_yld (Yld.assign rfl) rfl ?_; refine nx_nil ?_; refine kp_code_normal ?_; refine nx_ret ?_)
  all_goals (exact res1 (by first | exact .inl rfl | exact .inr rfl) Tryd.results67 rfl [] inferInstance ⟨rfl, rfl⟩)

/-- What 'dir' hands back. -/
def dirV (S : List Nd) (n : Int) : Value :=
  match fnd S n with
  | none => .tuple #[.pointer none, .int .i64 2]
  | some x => if x.f.kind = 2 then .tuple #[.pointer (some ⟨x.b, 0, none⟩), .int .i64 0] else .tuple #[.pointer none, .int .i64 20]
theorem sp65n (n : Int) (F : Chunk) : Sp Tryd.prog 65 [.pointer none, .int .i64 n] F [] (fun v B => v = .tuple #[.pointer none, .int .i64 2] ∧ B = []) := by
  refine sp_enter Tryd.func65 rfl Tryd.ntmps65 rfl (fun g => ?_)
  simp only [argFr, List.nil_append, Nat.reduceAdd]
  all_goals (refine nx_seq ?_; refine nx_region ?_; refine nx_op ?_; refine opw_yld (Yld.assign rfl) rfl ?_; refine nx_op ?_; refine opw_yld (Yld.assign rfl) rfl ?_; refine nx_nil ?_; refine kp_code_normal ?_; refine nx_seq ?_; refine nx_region ?_; refine nx_op ?_; refine opw_yld (Yld.move rfl) rfl ?_; refine nx_op ?_; refine opw_yld (Yld.move rfl) rfl ?_)
  all_goals (refine nx_op ?_; (refine opw_call rfl (sp67n _ _) inferInstance rfl ?_; rintro _ _ ⟨rfl, rfl⟩; simp only [List.nil_append]))
  all_goals (refine nx_op ?_; refine opw_yld (Yld.assign rfl) rfl ?_; refine nx_nil ?_; refine kp_code_normal ?_; refine nx_block ?_; refine nx_seq ?_; refine nx_region ?_; refine nx_op ?_; refine opw_yld (Yld.move rfl) rfl ?_; refine nx_op ?_; refine opw_yld (Yld.eqNil rfl rfl) rfl ?_; refine nx_op ?_; refine opw_yld (Yld.assign rfl) rfl ?_; refine nx_nil ?_; refine kp_code_normal ?_)
  all_goals (refine nx_cond rfl (fun hc => ?_) (fun hc => ?_))
  all_goals (first | (exact Bool.noConfusion (hc.symm.trans (by first | rfl | assumption) : true = false)) | (exact Bool.noConfusion (hc.symm.trans (by first | rfl | assumption) : false = true)) | (all_goals (refine nx_seq ?_; refine nx_region ?_; refine nx_op ?_; refine opw_yld (Yld.assign rfl) rfl ?_; refine nx_op ?_; refine opw_yld (Yld.assign rfl) rfl ?_; refine nx_nil ?_; refine kp_code_normal ?_; refine nx_ret ?_; refine kp_blk_ret ?_); all_goals (exact res2 (by first | exact .inl rfl | exact .inr rfl) Tryd.results65 rfl rfl [] inferInstance ⟨rfl, rfl⟩)) | (all_goals (refine nx_seq ?_; refine nx_region ?_; refine nx_op ?_; refine opw_yld (Yld.move rfl) rfl ?_; refine nx_op ?_; refine opw_yld (Yld.nilCheck rfl) rfl ?_; refine nx_op ?_; refine opw_yld (Yld.fieldAddr rfl) rfl ?_; refine nx_op ?_; refine opw_yld (Yld.load rfl) rfl ?_; refine nx_op ?_; refine opw_yld (Yld.cmp rfl rfl rfl) rfl ?_; refine nx_op ?_; refine opw_yld (Yld.assign rfl) rfl ?_; refine nx_nil ?_; refine kp_code_normal ?_); all_goals (refine nx_cond rfl (fun hc => ?_) (fun hc => ?_)); all_goals (first | (exact Bool.noConfusion (hc.symm.trans (by first | rfl | assumption) : true = false)) | (exact Bool.noConfusion (hc.symm.trans (by first | rfl | assumption) : false = true)) | (all_goals (refine nx_seq ?_; refine nx_region ?_; refine nx_op ?_; refine opw_yld (Yld.assign rfl) rfl ?_; refine nx_op ?_; refine opw_yld (Yld.assign rfl) rfl ?_; refine nx_nil ?_; refine kp_code_normal ?_; refine nx_ret ?_; refine kp_blk_ret ?_); all_goals (exact res2 (by first | exact .inl rfl | exact .inr rfl) Tryd.results65 rfl rfl [] inferInstance ⟨rfl, rfl⟩)) | (all_goals (refine nx_seq ?_; refine nx_region ?_; refine nx_op ?_; refine opw_yld (Yld.move rfl) rfl ?_; refine nx_op ?_; refine opw_yld (Yld.assign rfl) rfl ?_; refine nx_op ?_; refine opw_yld (Yld.assign rfl) rfl ?_; refine nx_nil ?_; refine kp_code_normal ?_; refine nx_ret ?_; refine kp_blk_ret ?_); all_goals (exact res2 (by first | exact .inl rfl | exact .inr rfl) Tryd.results65 rfl rfl [] inferInstance ⟨rfl, rfl⟩)))))
theorem sp65 (hT : InT F T) (n : Int) : Sp Tryd.prog 65 [.pointer (some ⟨T.t, 0, none⟩), .int .i64 n] F [] (fun v B => v = dirV T.S n ∧ B = []) := by
  refine sp_enter Tryd.func65 rfl Tryd.ntmps65 rfl (fun g => ?_)
  simp only [argFr, List.nil_append, Nat.reduceAdd]
  cases hf : fnd T.S n with
  | none =>
    all_goals (refine nx_seq ?_; refine nx_region ?_; refine nx_op ?_; refine opw_yld (Yld.assign rfl) rfl ?_; refine nx_op ?_; refine opw_yld (Yld.assign rfl) rfl ?_; refine nx_nil ?_; refine kp_code_normal ?_; refine nx_seq ?_; refine nx_region ?_; refine nx_op ?_; refine opw_yld (Yld.move rfl) rfl ?_; refine nx_op ?_; refine opw_yld (Yld.move rfl) rfl ?_)
    all_goals (refine nx_op ?_; (refine opw_call rfl (sp67 (by simpa using hT) _) inferInstance rfl ?_; rintro _ _ ⟨rfl, rfl⟩; simp only [List.nil_append, hf, ptrO]))
    all_goals (refine nx_op ?_; refine opw_yld (Yld.assign rfl) rfl ?_; refine nx_nil ?_; refine kp_code_normal ?_; refine nx_block ?_; refine nx_seq ?_; refine nx_region ?_; refine nx_op ?_; refine opw_yld (Yld.move rfl) rfl ?_; refine nx_op ?_; refine opw_yld (Yld.eqNil rfl rfl) rfl ?_; refine nx_op ?_; refine opw_yld (Yld.assign rfl) rfl ?_; refine nx_nil ?_; refine kp_code_normal ?_)
    all_goals (refine nx_cond rfl (fun hc => ?_) (fun hc => ?_))
    all_goals (first | (exact Bool.noConfusion (hc.symm.trans (by first | rfl | assumption) : true = false)) | (exact Bool.noConfusion (hc.symm.trans (by first | rfl | assumption) : false = true)) | (all_goals (refine nx_seq ?_; refine nx_region ?_; refine nx_op ?_; refine opw_yld (Yld.assign rfl) rfl ?_; refine nx_op ?_; refine opw_yld (Yld.assign rfl) rfl ?_; refine nx_nil ?_; refine kp_code_normal ?_; refine nx_ret ?_; refine kp_blk_ret ?_); all_goals (exact res2 (by first | exact .inl rfl | exact .inr rfl) Tryd.results65 rfl rfl [] inferInstance ⟨by simp [dirV, hf], rfl⟩)) | (all_goals (refine nx_seq ?_; refine nx_region ?_; refine nx_op ?_; refine opw_yld (Yld.move rfl) rfl ?_; refine nx_op ?_; refine opw_yld (Yld.nilCheck rfl) rfl ?_; refine nx_op ?_; refine opw_yld (Yld.fieldAddr rfl) rfl ?_; refine nx_op ?_; refine opw_yld (Yld.load rfl) rfl ?_; refine nx_op ?_; refine opw_yld (Yld.cmp rfl rfl rfl) rfl ?_; refine nx_op ?_; refine opw_yld (Yld.assign rfl) rfl ?_; refine nx_nil ?_; refine kp_code_normal ?_); all_goals (refine nx_cond rfl (fun hc => ?_) (fun hc => ?_)); all_goals (first | (exact Bool.noConfusion (hc.symm.trans (by first | rfl | assumption) : true = false)) | (exact Bool.noConfusion (hc.symm.trans (by first | rfl | assumption) : false = true)) | (all_goals (refine nx_seq ?_; refine nx_region ?_; refine nx_op ?_; refine opw_yld (Yld.assign rfl) rfl ?_; refine nx_op ?_; refine opw_yld (Yld.assign rfl) rfl ?_; refine nx_nil ?_; refine kp_code_normal ?_; refine nx_ret ?_; refine kp_blk_ret ?_); all_goals (exact res2 (by first | exact .inl rfl | exact .inr rfl) Tryd.results65 rfl rfl [] inferInstance ⟨by simp [dirV, hf], rfl⟩)) | (all_goals (refine nx_seq ?_; refine nx_region ?_; refine nx_op ?_; refine opw_yld (Yld.move rfl) rfl ?_; refine nx_op ?_; refine opw_yld (Yld.assign rfl) rfl ?_; refine nx_op ?_; refine opw_yld (Yld.assign rfl) rfl ?_; refine nx_nil ?_; refine kp_code_normal ?_; refine nx_ret ?_; refine kp_blk_ret ?_); all_goals (exact res2 (by first | exact .inl rfl | exact .inr rfl) Tryd.results65 rfl rfl [] inferInstance ⟨by simp [dirV, hf], rfl⟩)))))
  | some x =>
    have iN := hT.inN (fnd_mem hf).1
    have i1 := iN.blk
    by_cases hk : x.f.kind = 2
    · have hb : (x.f.kind != 2) = false := by simpa using hk
      all_goals (refine nx_seq ?_; refine nx_region ?_; refine nx_op ?_; refine opw_yld (Yld.assign rfl) rfl ?_; refine nx_op ?_; refine opw_yld (Yld.assign rfl) rfl ?_; refine nx_nil ?_; refine kp_code_normal ?_; refine nx_seq ?_; refine nx_region ?_; refine nx_op ?_; refine opw_yld (Yld.move rfl) rfl ?_; refine nx_op ?_; refine opw_yld (Yld.move rfl) rfl ?_)
      all_goals (refine nx_op ?_; (refine opw_call rfl (sp67 (by simpa using hT) _) inferInstance rfl ?_; rintro _ _ ⟨rfl, rfl⟩; simp only [List.nil_append, hf, ptrO]))
      all_goals (refine nx_op ?_; refine opw_yld (Yld.assign rfl) rfl ?_; refine nx_nil ?_; refine kp_code_normal ?_; refine nx_block ?_; refine nx_seq ?_; refine nx_region ?_; refine nx_op ?_; refine opw_yld (Yld.move rfl) rfl ?_; refine nx_op ?_; refine opw_yld (Yld.eqNil rfl rfl) rfl ?_; refine nx_op ?_; refine opw_yld (Yld.assign rfl) rfl ?_; refine nx_nil ?_; refine kp_code_normal ?_)
      all_goals (refine nx_cond rfl (fun hc => ?_) (fun hc => ?_))
      all_goals (first | (exact Bool.noConfusion (hc.symm.trans (by first | rfl | assumption) : true = false)) | (exact Bool.noConfusion (hc.symm.trans (by first | rfl | assumption) : false = true)) | (all_goals (refine nx_seq ?_; refine nx_region ?_; refine nx_op ?_; refine opw_yld (Yld.assign rfl) rfl ?_; refine nx_op ?_; refine opw_yld (Yld.assign rfl) rfl ?_; refine nx_nil ?_; refine kp_code_normal ?_; refine nx_ret ?_; refine kp_blk_ret ?_); all_goals (exact res2 (by first | exact .inl rfl | exact .inr rfl) Tryd.results65 rfl rfl [] inferInstance ⟨by simp [dirV, hf, hk], rfl⟩)) | (all_goals (refine nx_seq ?_; refine nx_region ?_; refine nx_op ?_; refine opw_yld (Yld.move rfl) rfl ?_; refine nx_op ?_; refine opw_yld (Yld.nilCheck rfl) rfl ?_; refine nx_op ?_; refine opw_yld (Yld.fieldAddr rfl) rfl ?_; refine nx_op ?_; refine opw_yld (Yld.load rfl) rfl ?_; refine nx_op ?_; refine opw_yld (Yld.cmp rfl rfl rfl) rfl ?_; refine nx_op ?_; refine opw_yld (Yld.assign rfl) rfl ?_; refine nx_nil ?_; refine kp_code_normal ?_); all_goals (refine nx_cond rfl (fun hc => ?_) (fun hc => ?_)); all_goals (first | (exact Bool.noConfusion (hc.symm.trans (by first | rfl | assumption) : true = false)) | (exact Bool.noConfusion (hc.symm.trans (by first | rfl | assumption) : false = true)) | (all_goals (refine nx_seq ?_; refine nx_region ?_; refine nx_op ?_; refine opw_yld (Yld.assign rfl) rfl ?_; refine nx_op ?_; refine opw_yld (Yld.assign rfl) rfl ?_; refine nx_nil ?_; refine kp_code_normal ?_; refine nx_ret ?_; refine kp_blk_ret ?_); all_goals (exact res2 (by first | exact .inl rfl | exact .inr rfl) Tryd.results65 rfl rfl [] inferInstance ⟨by simp [dirV, hf, hk], rfl⟩)) | (all_goals (refine nx_seq ?_; refine nx_region ?_; refine nx_op ?_; refine opw_yld (Yld.move rfl) rfl ?_; refine nx_op ?_; refine opw_yld (Yld.assign rfl) rfl ?_; refine nx_op ?_; refine opw_yld (Yld.assign rfl) rfl ?_; refine nx_nil ?_; refine kp_code_normal ?_; refine nx_ret ?_; refine kp_blk_ret ?_); all_goals (exact res2 (by first | exact .inl rfl | exact .inr rfl) Tryd.results65 rfl rfl [] inferInstance ⟨by simp [dirV, hf, hk], rfl⟩)))))
    · have hb : (x.f.kind != 2) = true := by simpa using hk
      all_goals (refine nx_seq ?_; refine nx_region ?_; refine nx_op ?_; refine opw_yld (Yld.assign rfl) rfl ?_; refine nx_op ?_; refine opw_yld (Yld.assign rfl) rfl ?_; refine nx_nil ?_; refine kp_code_normal ?_; refine nx_seq ?_; refine nx_region ?_; refine nx_op ?_; refine opw_yld (Yld.move rfl) rfl ?_; refine nx_op ?_; refine opw_yld (Yld.move rfl) rfl ?_)
      all_goals (refine nx_op ?_; (refine opw_call rfl (sp67 (by simpa using hT) _) inferInstance rfl ?_; rintro _ _ ⟨rfl, rfl⟩; simp only [List.nil_append, hf, ptrO]))
      all_goals (refine nx_op ?_; refine opw_yld (Yld.assign rfl) rfl ?_; refine nx_nil ?_; refine kp_code_normal ?_; refine nx_block ?_; refine nx_seq ?_; refine nx_region ?_; refine nx_op ?_; refine opw_yld (Yld.move rfl) rfl ?_; refine nx_op ?_; refine opw_yld (Yld.eqNil rfl rfl) rfl ?_; refine nx_op ?_; refine opw_yld (Yld.assign rfl) rfl ?_; refine nx_nil ?_; refine kp_code_normal ?_)
      all_goals (refine nx_cond rfl (fun hc => ?_) (fun hc => ?_))
      all_goals (first | (exact Bool.noConfusion (hc.symm.trans (by first | rfl | assumption) : true = false)) | (exact Bool.noConfusion (hc.symm.trans (by first | rfl | assumption) : false = true)) | (all_goals (refine nx_seq ?_; refine nx_region ?_; refine nx_op ?_; refine opw_yld (Yld.assign rfl) rfl ?_; refine nx_op ?_; refine opw_yld (Yld.assign rfl) rfl ?_; refine nx_nil ?_; refine kp_code_normal ?_; refine nx_ret ?_; refine kp_blk_ret ?_); all_goals (exact res2 (by first | exact .inl rfl | exact .inr rfl) Tryd.results65 rfl rfl [] inferInstance ⟨by simp [dirV, hf, hk], rfl⟩)) | (all_goals (refine nx_seq ?_; refine nx_region ?_; refine nx_op ?_; refine opw_yld (Yld.move rfl) rfl ?_; refine nx_op ?_; refine opw_yld (Yld.nilCheck rfl) rfl ?_; refine nx_op ?_; refine opw_yld (Yld.fieldAddr rfl) rfl ?_; refine nx_op ?_; refine opw_yld (Yld.load rfl) rfl ?_; refine nx_op ?_; refine opw_yld (Yld.cmp rfl rfl rfl) rfl ?_; refine nx_op ?_; refine opw_yld (Yld.assign rfl) rfl ?_; refine nx_nil ?_; refine kp_code_normal ?_); all_goals (refine nx_cond rfl (fun hc => ?_) (fun hc => ?_)); all_goals (first | (exact Bool.noConfusion (hc.symm.trans (by first | rfl | assumption) : true = false)) | (exact Bool.noConfusion (hc.symm.trans (by first | rfl | assumption) : false = true)) | (all_goals (refine nx_seq ?_; refine nx_region ?_; refine nx_op ?_; refine opw_yld (Yld.assign rfl) rfl ?_; refine nx_op ?_; refine opw_yld (Yld.assign rfl) rfl ?_; refine nx_nil ?_; refine kp_code_normal ?_; refine nx_ret ?_; refine kp_blk_ret ?_); all_goals (exact res2 (by first | exact .inl rfl | exact .inr rfl) Tryd.results65 rfl rfl [] inferInstance ⟨by simp [dirV, hf, hk], rfl⟩)) | (all_goals (refine nx_seq ?_; refine nx_region ?_; refine nx_op ?_; refine opw_yld (Yld.move rfl) rfl ?_; refine nx_op ?_; refine opw_yld (Yld.assign rfl) rfl ?_; refine nx_op ?_; refine opw_yld (Yld.assign rfl) rfl ?_; refine nx_nil ?_; refine kp_code_normal ?_; refine nx_ret ?_; refine kp_blk_ret ?_); all_goals (exact res2 (by first | exact .inl rfl | exact .inr rfl) Tryd.results65 rfl rfl [] inferInstance ⟨by simp [dirV, hf, hk], rfl⟩)))))

/-- dead. -/
def deadB (f : FileR) : Bool := f.kind == 2 && f.parent == 0
theorem sp68 {x : Nd} (hN : InN F x) : Sp Tryd.prog 68 [.pointer (some ⟨x.b, 0, none⟩)] F [] (fun v B => v = .bool (deadB x.f) ∧ B = []) := by
  have i1 := hN.blk
  refine sp_enter Tryd.func68 rfl Tryd.ntmps68 rfl (fun g => ?_)
  simp only [argFr, List.nil_append, Nat.reduceAdd]
  all_goals (refine nx_seq ?_; refine nx_region ?_; refine nx_op ?_; refine opw_yld (Yld.assign rfl) rfl ?_; refine nx_nil ?_; refine kp_code_normal ?_; refine nx_seq ?_; refine nx_region ?_; refine nx_op ?_; refine opw_yld (Yld.move rfl) rfl ?_; refine nx_op ?_; refine opw_yld (Yld.nilCheck rfl) rfl ?_; refine nx_op ?_; refine opw_yld (Yld.fieldAddr rfl) rfl ?_; refine nx_op ?_; refine opw_yld (Yld.load rfl) rfl ?_; refine nx_op ?_; refine opw_yld (Yld.cmp rfl rfl rfl) rfl ?_; refine nx_op ?_; refine opw_yld (Yld.move rfl) rfl ?_)
  all_goals (first | refine nx_guard_n rfl (by first | rfl | assumption) rfl ?_ | refine nx_guard_u rfl rfl ?_ | ((first | refine nx_guard_y rfl (by first | rfl | assumption) ?_ | refine nx_guard rfl rfl (fun hc => ?_) (fun hc => ?_)); all_goals (first | (refine opw_yld (Yld.move rfl) rfl ?_) | skip)))
  all_goals (first | refine nx_guard_n rfl (by first | rfl | assumption) rfl ?_ | refine nx_guard_u rfl rfl ?_ | ((first | refine nx_guard_y rfl (by first | rfl | assumption) ?_ | refine nx_guard rfl rfl (fun hc => ?_) (fun hc => ?_)); all_goals (first | (refine opw_yld (Yld.nilCheck rfl) rfl ?_) | skip)))
  all_goals (first | refine nx_guard_n rfl (by first | rfl | assumption) rfl ?_ | refine nx_guard_u rfl rfl ?_ | ((first | refine nx_guard_y rfl (by first | rfl | assumption) ?_ | refine nx_guard rfl rfl (fun hc => ?_) (fun hc => ?_)); all_goals (first | (refine opw_yld (Yld.fieldAddr rfl) rfl ?_) | skip)))
  all_goals (first | refine nx_guard_n rfl (by first | rfl | assumption) rfl ?_ | refine nx_guard_u rfl rfl ?_ | ((first | refine nx_guard_y rfl (by first | rfl | assumption) ?_ | refine nx_guard rfl rfl (fun hc => ?_) (fun hc => ?_)); all_goals (first | (refine opw_yld (Yld.load rfl) rfl ?_) | skip)))
  all_goals (first | refine nx_guard_n rfl (by first | rfl | assumption) rfl ?_ | refine nx_guard_u rfl rfl ?_ | ((first | refine nx_guard_y rfl (by first | rfl | assumption) ?_ | refine nx_guard rfl rfl (fun hc => ?_) (fun hc => ?_)); all_goals (first | (refine opw_yld (Yld.cmp rfl rfl rfl) rfl ?_) | skip)))
  all_goals (refine nx_op ?_; (first | refine opw_yld (Yld.pick_t rfl (by first | rfl | assumption) rfl) rfl ?_ | refine opw_yld (Yld.pick_f rfl (by first | rfl | assumption) rfl) rfl ?_))
  all_goals (refine nx_op ?_; refine opw_yld (Yld.assign rfl) rfl ?_; refine nx_nil ?_; refine kp_code_normal ?_; refine nx_ret ?_)
  all_goals (exact res1 (by first | exact .inl rfl | exact .inr rfl) Tryd.results68 rfl [] inferInstance ⟨by simp_all [deadB], rfl⟩)
end
end Go.Proofs.YtdobndclhbkooaaDoor
