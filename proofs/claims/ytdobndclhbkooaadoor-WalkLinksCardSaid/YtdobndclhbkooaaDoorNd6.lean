/- A copy of bytes; a new node. Conditions: the tree is the call's own, the bytes lie in the memory that is kept. -/
import Derived.Test.YtdobndclhbkooaaDoorNd5
namespace Go.Proofs.YtdobndclhbkooaaDoor
open Go Go.SL
set_option maxRecDepth 100000
set_option linter.unusedVariables false

section
variable {F : Chunk}
/-- bytes.Clone. -/
theorem sp97 {v : Value} {l : List UInt8} (hv : Ro F v l.length (bytesV l)) (hl : l.length < 1000000000) : Sp Tryd.prog 97 [v] F [] (fun v' B => Own 5 1 v' l.length (bytesV l) B.flatten) := by
  rcases hv with ⟨rfl, h0, h1⟩ | ⟨b, o, cap, cs, et, z, rfl, hcap, hm, hcs⟩
  · obtain rfl : l = [] := List.eq_nil_of_length_eq_zero h0
    refine sp_enter Tryd.func97 rfl Tryd.ntmps97 rfl (fun g => ?_)
    simp only [argFr, List.nil_append, Nat.reduceAdd]
    all_goals (refine nx_seq ?_; refine nx_region ?_; refine nx_op ?_; refine opw_yld (Yld.assign rfl) rfl ?_; refine nx_nil ?_; refine kp_code_normal ?_; refine nx_seq ?_; refine nx_seq ?_; refine nx_region ?_; refine nx_op ?_; refine opw_yld (Yld.move rfl) rfl ?_; refine nx_op ?_; refine opw_yld (Yld.eqSlNil rfl rfl) rfl ?_; refine nx_nil ?_; refine kp_code_normal ?_)
    all_goals (refine nx_cond rfl (fun hc => ?_) (fun hc => ?_))
    all_goals (first | (exact Bool.noConfusion (hc.symm.trans (by first | rfl | assumption) : true = false)) | (exact Bool.noConfusion (hc.symm.trans (by first | rfl | assumption) : false = true)) | (all_goals (refine nx_seq ?_; refine nx_region ?_; refine nx_op ?_; refine opw_yld (Yld.assign rfl) rfl ?_; refine nx_nil ?_; refine kp_code_normal ?_; refine nx_ret ?_; refine kp_code_ret ?_); all_goals (exact res1 (by first | exact .inl rfl | exact .inr rfl) Tryd.results97 rfl [] inferInstance (Own.nil _ _))) | (all_goals refine nx_skip ?_))
    all_goals (refine kp_code_normal ?_; refine nx_seq ?_; refine nx_region ?_)
    all_goals (refine nx_op ?_; refine opw_alc (Alc.buildSlice rfl (by rfl) (by rfl) (by rfl) (by rfl)) rfl (fun b5 => ?_))
    all_goals (refine nx_op ?_; refine opw_yld (Yld.move rfl) rfl ?_)
    all_goals (refine nx_op ?_; fail "builtin append: r3.2")
    all_goals (refine nx_op ?_; refine opw_yld (Yld.assign rfl) rfl ?_; refine nx_nil ?_; refine kp_code_normal ?_; refine nx_ret ?_)
    all_goals (exact res1 (by first | exact .inl rfl | exact .inr rfl) Tryd.results97 rfl [] inferInstance (Own.nil _ _))
  · have i1 : InC b (.cells cs.toArray et z) F := ⟨hm⟩
    refine sp_enter Tryd.func97 rfl Tryd.ntmps97 rfl (fun g => ?_)
    simp only [argFr, List.nil_append, Nat.reduceAdd]
    all_goals (refine nx_seq ?_; refine nx_region ?_; refine nx_op ?_; refine opw_yld (Yld.assign rfl) rfl ?_; refine nx_nil ?_; refine kp_code_normal ?_; refine nx_seq ?_; refine nx_seq ?_; refine nx_region ?_; refine nx_op ?_; refine opw_yld (Yld.move rfl) rfl ?_; refine nx_op ?_; refine opw_yld (Yld.eqSlNil rfl rfl) rfl ?_; refine nx_nil ?_; refine kp_code_normal ?_)
    all_goals (refine nx_cond rfl (fun hc => ?_) (fun hc => ?_))
    all_goals (first | (exact Bool.noConfusion (hc.symm.trans (by first | rfl | assumption) : true = false)) | (exact Bool.noConfusion (hc.symm.trans (by first | rfl | assumption) : false = true)) | (all_goals (refine nx_seq ?_; refine nx_region ?_; refine nx_op ?_; refine opw_yld (Yld.assign rfl) rfl ?_; refine nx_nil ?_; refine kp_code_normal ?_; refine nx_ret ?_; refine kp_code_ret ?_); all_goals (exact res1 (by first | exact .inl rfl | exact .inr rfl) Tryd.results97 rfl [c'] inferInstance (by simpa using ho))) | (all_goals refine nx_skip ?_))
    all_goals (refine kp_code_normal ?_; refine nx_seq ?_; refine nx_region ?_)
    all_goals (refine nx_op ?_; refine opw_alc (Alc.buildSlice rfl (by rfl) (by rfl) (by rfl) (by rfl)) rfl (fun b5 => ?_))
    all_goals (refine nx_op ?_; refine opw_yld (Yld.move rfl) rfl ?_)
    all_goals (refine nx_op ?_; refine opw_append (e := 5) (sz := 1) (by' := 1) (z := [.int .u8 0]) (m := 0) (xs := []) (ys := bytesV l) (c := [(b5, .cells (zerosL [Value.int .u8 0] 0).toArray 5 (0, 0))]) rfl rfl rfl (Own.made (b := b5) (m := 0) (xs := []) rfl (by decide)) inferInstance (by simpa using hcs) (by simp) (bytesV_one l) (by omega) (by omega) rfl ?_; intro v' c' ho hn; simp only [Nat.zero_add, List.nil_append] at ho)
    all_goals (refine nx_op ?_; refine opw_yld (Yld.assign rfl) rfl ?_; refine nx_nil ?_; refine kp_code_normal ?_; refine nx_ret ?_)
    all_goals (exact res1 (by first | exact .inl rfl | exact .inr rfl) Tryd.results97 rfl [c'] inferInstance (by simpa using ho))

end

/-! The tree as plain data: numbers and files. -/
abbrev Fs := List (Int × FileR)
def abs (S : List Nd) : Fs := S.map fun x => (x.n, x.f)
def fndA (A : Fs) (n : Int) : Option FileR := (A.find? fun p => p.1 == n).map (·.2)
theorem fndA_abs (S : List Nd) (n : Int) : fndA (abs S) n = (fnd S n).map (·.f) := by
  induction S with
  | nil => rfl
  | cons x S ih =>
    simp only [fndA, abs, fnd, List.map_cons, List.find?_cons] at ih ⊢
    by_cases h : x.n == n
    · simp [h]
    · simp only [h]; exact ih
def freeFromA (A : Fs) : Nat → Nat → Nat
  | 0, n => n
  | f + 1, n => bif (fndA A (n : Int)).isSome then freeFromA A f (n + 1) else n
def freeA (A : Fs) : Nat := freeFromA A (A.length + 1) 1
theorem freeFrom_abs (S : List Nd) : ∀ f n, freeFrom S f n = freeFromA (abs S) f n
  | 0, n => rfl
  | f + 1, n => by simp only [freeFrom, freeFromA, fndA_abs, Option.isSome_map, freeFrom_abs S f]
theorem freeN_abs (S : List Nd) : freeN S = freeA (abs S) := by simp [freeN, freeA, freeFrom_abs, abs]
def placeA (A : Fs) (n : Int) (nm : List UInt8) : Int := match fndA A n with
  | none => 2
  | some f => if f.kind = 2 then (bif nm == [46] || nm == [46, 46] then 17 else bif !goodName nm then 22 else bif (f.ents.findIdx? (hasName nm)).isSome then 17 else if f.parent = 0 then 2 else 0) else 20
theorem placeR_abs (S : List Nd) (n : Int) (nm : List UInt8) : placeR S n nm = placeA (abs S) n nm := by
  simp only [placeR, placeA, fndA_abs]; cases fnd S n <;> rfl
def parentA (A : Fs) (n : Int) : Int := match fndA A n with
  | none => 0
  | some f => if f.kind = 2 then (if f.parent = 0 then n else f.parent) else 0
theorem parentI_abs (S : List Nd) (n : Int) : parentI S n = parentA (abs S) n := by
  simp only [parentI, parentA, fndA_abs]; cases fnd S n <;> rfl
def findA (A : Fs) (n : Int) (nm : List UInt8) : Int × Int := match fndA A n with
  | none => (0, 2)
  | some f => if f.kind = 2 then (bif nm == [46] then (n, 0) else bif nm == [46, 46] then (parentA A n, 0) else entR f.ents nm) else (0, 20)
theorem findR_abs (S : List Nd) (n : Int) (nm : List UInt8) : findR S n nm = findA (abs S) n nm := by
  simp only [findR, findA, fndA_abs, parentI_abs]; cases fnd S n <;> rfl
/-- A node is another one. -/
def updA (A : Fs) (n : Int) (f : FileR) : Fs := match A with
  | [] => []
  | p :: r => bif p.1 == n then (n, f) :: r else p :: updA r n f
theorem fnd_split {S : List Nd} {n : Int} {x : Nd} (h : fnd S n = some x) : ∃ pre post, S = pre ++ x :: post ∧ x.n = n ∧ ∀ y ∈ pre, (y.n == n) = false := by
  obtain ⟨h1, pre, post, h2, h3⟩ := List.find?_eq_some_iff_append.1 h
  exact ⟨pre, post, h2, by simpa using h1, fun y hy => by simpa using h3 y hy⟩
theorem abs_upd {n : Int} : ∀ {pre post : List Nd} {x x' : Nd}, x.n = n → x'.n = n → (∀ y ∈ pre, (y.n == n) = false) → abs (pre ++ x' :: post) = updA (abs (pre ++ x :: post)) n x'.f
  | [], post, x, x', h1, h2, h3 => by simp [abs, updA, h1, h2]
  | y :: pre, post, x, x', h1, h2, h3 => by
    have := abs_upd (pre := pre) (post := post) h1 h2 fun z hz => h3 z (List.mem_cons_of_mem _ hz)
    simp only [abs, List.cons_append, List.map_cons, updA, h3 y (List.mem_cons_self ..), cond_false] at this ⊢
    rw [this]
theorem putI_new : ∀ {l : List (Int × Value)} {i : Int} {v : Value}, getI l i = none → putI l i v = l ++ [(i, v)]
  | [], _, _, _ => rfl
  | p :: r, i, v, h => by
    have e : (p.1 == i) = false := by
      cases e : p.1 == i
      · rfl
      · simp [getI, e] at h
    have h2 : getI r i = none := by simpa [getI, e] using h
    simp [putI, e, putI_new h2]

def newF (kind mode : Int) (data : List UInt8) (dir : Int) : FileR := ⟨kind, mode, data, [], if kind = 2 then dir else 0, 1, 0⟩
def addE (f : FileR) (nm : ByteArray) (n kind : Int) : FileR := ⟨f.kind, f.mode, f.data, f.ents ++ [⟨nm, n, kind⟩], f.parent, f.links, f.held⟩
/-- Make: the number, why not, the tree then. -/
def makeA (A : Fs) (dir : Int) (nm : ByteArray) (kind mode : Int) (data : List UInt8) : Int × Int × Fs :=
  let e := placeA A dir (bs nm)
  if (e = 2 ∧ (fndA A dir).isNone) ∨ e = 20 then (0, e, A)
  else bif !goodB kind mode data then (0, 22, A)
  else if e ≠ 0 then (0, e, A)
  else if 1024 ≤ A.length then (0, 28, A)
  else match fndA A dir with
    | none => (0, 2, A)
    | some f => ((freeA A : Int), 0, updA A dir (addE f nm (freeA A : Nat) kind) ++ [((freeA A : Int), newF kind mode data dir)])

section
variable {F : Chunk} {T : Tr}
theorem Tr.chunk_split {T : Tr} {pre post : List Nd} {x : Nd} (h : T.S = pre ++ x :: post) :
    T.chunk = [(T.t, .cells [.map (some T.m)].toArray 91 (0, 0))] ++ ([(T.m, .map T.es T.ck)] ++ (pre.flatMap Nd.chunk ++ ([(x.b, .cells [.int .i64 x.f.kind, .int .i64 x.f.mode, x.dv, x.ev, .int .i64 x.f.parent, .int .i64 x.f.links, .int .i64 x.f.held].toArray 88 (0, 0))] ++ (x.dc ++ (x.ec ++ post.flatMap Nd.chunk))))) := by
  simp [Tr.chunk, Tr.head, h, Nd.chunk]

/-- Make, where it makes none. -/
theorem sp43e (hT : T.ok) (dir : Int) (nm : ByteArray) (kind mode : Int) {v : Value} {data : List UInt8} (hv : Ro F v data.length (bytesV data)) (he : (makeA (abs T.S) dir nm kind mode data).2.1 ≠ 0) :
    Sp Tryd.prog 43 [.pointer (some ⟨T.t, 0, none⟩), .int .i64 dir, .string nm, .int .i64 kind, .int .i64 mode, v] F [T.chunk]
      (fun v B => v = .tuple #[.int .i64 0, .int .i64 (makeA (abs T.S) dir nm kind mode data).2.1] ∧ B = [T.chunk]) := by
  have i0 : InT T.chunk T := InT.of hT fun _ h => h
  have i1 := i0.tb
  have i2 := i0.mb
  have hm := hT.map
  have ha : ((abs T.S).length : Int) = (ptrs T.S).length := by simp [abs, ptrs]
  obtain ⟨a, cap, e⟩ := Ro_slice hv
  have h95 : ∀ F', (∀ y ∈ F, y ∈ F') → Sp Tryd.prog 95 [.int .i64 kind, .int .i64 mode, v] F' [] (fun v B => v = .bool (goodB kind mode data) ∧ B = []) := fun F' h => sp95 (hv.mono h) kind mode
  generalize hr : (makeA (abs T.S) dir nm kind mode data).2.1 = r at *
  rw [e] at h95 ⊢
  cases hf : fnd T.S dir with
  | none =>
    have hp : placeR T.S dir (bs nm) = 2 := by simp [placeR, hf]
    have hp2 : placeA (abs T.S) dir (bs nm) = 2 := by rw [← placeR_abs, hp]
    have hf2 : fndA (abs T.S) dir = none := by rw [fndA_abs, hf]; rfl
    have hr2 : r = 2 := by rw [← hr]; simp [makeA, hp2, hf2]
    subst hr2
    refine sp_enter Tryd.func43 rfl Tryd.ntmps43 rfl (fun g => ?_)
    simp only [argFr, List.nil_append, List.cons_append, Nat.reduceAdd]
    all_goals (refine nx_seq ?_; refine nx_region ?_; refine nx_op ?_; refine opw_yld (Yld.assign rfl) rfl ?_; refine nx_op ?_; refine opw_yld (Yld.assign rfl) rfl ?_; refine nx_nil ?_; refine kp_code_normal ?_; refine nx_seq ?_; refine nx_region ?_; refine nx_op ?_; refine opw_yld (Yld.move rfl) rfl ?_; refine nx_op ?_; refine opw_yld (Yld.move rfl) rfl ?_; refine nx_op ?_; refine opw_yld (Yld.move rfl) rfl ?_)
    all_goals (refine nx_op ?_; (refine opw_call rfl (sp94 (InT.of hT (by simp +contextual)) dir nm) inferInstance rfl ?_; rintro _ _ ⟨rfl, rfl⟩; simp only [List.nil_append, placeV, hp, show ¬ (2 : Int) = 0 from by decide, if_false]))
    all_goals (refine nx_op ?_; refine opw_yld (Yld.move rfl) rfl ?_; refine nx_op ?_; refine opw_yld (Yld.extract rfl rfl) rfl ?_; refine nx_op ?_; refine opw_yld (Yld.extract rfl rfl) rfl ?_; refine nx_op ?_; refine opw_yld (Yld.assign rfl) rfl ?_; refine nx_op ?_; refine opw_yld (Yld.assign rfl) rfl ?_; refine nx_nil ?_; refine kp_code_normal ?_; refine nx_seq ?_; refine nx_block ?_; refine nx_seq ?_; refine nx_seq ?_; refine nx_region ?_; refine nx_op ?_; refine opw_yld (Yld.move rfl) rfl ?_; refine nx_op ?_; refine opw_yld (Yld.cmp rfl rfl rfl) rfl ?_; refine nx_op ?_; refine opw_yld (Yld.move rfl) rfl ?_)
    all_goals (first | refine nx_guard_n rfl (by first | rfl | assumption) rfl ?_ | refine nx_guard_u rfl rfl ?_ | ((first | refine nx_guard_y rfl (by first | rfl | assumption) ?_ | refine nx_guard rfl rfl (fun hc => ?_) (fun hc => ?_)); all_goals (first | (refine opw_yld (Yld.move rfl) rfl ?_) | skip)))
    all_goals (first | refine nx_guard_n rfl (by first | rfl | assumption) rfl ?_ | refine nx_guard_u rfl rfl ?_ | ((first | refine nx_guard_y rfl (by first | rfl | assumption) ?_ | refine nx_guard rfl rfl (fun hc => ?_) (fun hc => ?_)); all_goals (first | (refine opw_yld (Yld.move rfl) rfl ?_) | skip)))
    all_goals (first | refine nx_guard_n rfl (by first | rfl | assumption) rfl ?_ | refine nx_guard_u rfl rfl ?_ | ((first | refine nx_guard_y rfl (by first | rfl | assumption) ?_ | refine nx_guard rfl rfl (fun hc => ?_) (fun hc => ?_)); all_goals (first | ((refine opw_call rfl (sp67 (InT.of hT (by simp +contextual)) dir) inferInstance rfl ?_; rintro _ _ ⟨rfl, rfl⟩; simp only [List.nil_append, hf, ptrO])) | skip)))
    all_goals (first | refine nx_guard_n rfl (by first | rfl | assumption) rfl ?_ | refine nx_guard_u rfl rfl ?_ | ((first | refine nx_guard_y rfl (by first | rfl | assumption) ?_ | refine nx_guard rfl rfl (fun hc => ?_) (fun hc => ?_)); all_goals (first | (refine opw_yld (Yld.eqNil rfl rfl) rfl ?_) | skip)))
    all_goals (refine nx_op ?_; (first | refine opw_yld (Yld.pick_t rfl (by first | rfl | assumption) rfl) rfl ?_ | refine opw_yld (Yld.pick_f rfl (by first | rfl | assumption) rfl) rfl ?_))
    all_goals (refine nx_op ?_; refine opw_yld (Yld.assign rfl) rfl ?_; refine nx_nil ?_; refine kp_code_normal ?_)
    all_goals (refine nx_cond rfl (fun hc => ?_) (fun hc => ?_))
    all_goals (first | (exact Bool.noConfusion (hc.symm.trans (by first | rfl | assumption) : true = false)) | (exact Bool.noConfusion (hc.symm.trans (by first | rfl | assumption) : false = true)) | (all_goals refine nx_skip ?_) | (all_goals (refine nx_region ?_; refine nx_op ?_; refine opw_yld (Yld.move rfl) rfl ?_; refine nx_op ?_; refine opw_yld (Yld.cmp rfl rfl rfl) rfl ?_; refine nx_op ?_; refine opw_yld (Yld.assign rfl) rfl ?_; refine nx_nil ?_)))
    all_goals refine kp_code_normal ?_
    all_goals (refine nx_cond rfl (fun hc => ?_) (fun hc => ?_))
    all_goals (first | (exact Bool.noConfusion (hc.symm.trans (by first | rfl | assumption) : true = false)) | (exact Bool.noConfusion (hc.symm.trans (by first | rfl | assumption) : false = true)) | (all_goals (refine nx_seq ?_; refine nx_region ?_; refine nx_op ?_; refine opw_yld (Yld.move rfl) rfl ?_; refine nx_op ?_; refine opw_yld (Yld.assign rfl) rfl ?_; refine nx_op ?_; refine opw_yld (Yld.assign rfl) rfl ?_; refine nx_nil ?_; refine kp_code_normal ?_; refine nx_ret ?_; refine kp_blk_ret ?_; refine kp_code_ret ?_); all_goals (exact res2 (by first | exact .inl rfl | exact .inr rfl) Tryd.results43 rfl rfl [T.chunk] inferInstance ⟨rfl, rfl⟩)) | (all_goals (refine nx_seq ?_; refine nx_region ?_; refine nx_op ?_; refine opw_yld (Yld.move rfl) rfl ?_; refine nx_op ?_; refine opw_yld (Yld.move rfl) rfl ?_; refine nx_op ?_; refine opw_yld (Yld.move rfl) rfl ?_); all_goals (refine nx_op ?_; (fail)); all_goals (refine nx_op ?_; refine opw_yld (Yld.not rfl) rfl ?_; refine nx_op ?_; refine opw_yld (Yld.assign rfl) rfl ?_; refine nx_nil ?_; refine kp_code_normal ?_); all_goals (refine nx_cond rfl (fun hc => ?_) (fun hc => ?_)); all_goals (first | (exact Bool.noConfusion (hc.symm.trans (by first | rfl | assumption) : true = false)) | (exact Bool.noConfusion (hc.symm.trans (by first | rfl | assumption) : false = true)) | (all_goals (refine nx_seq ?_; refine nx_region ?_; refine nx_op ?_; refine opw_yld (Yld.assign rfl) rfl ?_; refine nx_op ?_; refine opw_yld (Yld.assign rfl) rfl ?_; refine nx_nil ?_; refine kp_code_normal ?_; refine nx_ret ?_; refine kp_blk_ret ?_; refine kp_code_ret ?_); all_goals (exact res2 (by first | exact .inl rfl | exact .inr rfl) Tryd.results43 rfl rfl [T.chunk] inferInstance ⟨rfl, rfl⟩)) | (all_goals (refine nx_seq ?_; refine nx_region ?_; refine nx_op ?_; refine opw_yld (Yld.move rfl) rfl ?_; refine nx_op ?_; refine opw_yld (Yld.cmp rfl rfl rfl) rfl ?_; refine nx_op ?_; refine opw_yld (Yld.assign rfl) rfl ?_; refine nx_nil ?_; refine kp_code_normal ?_); all_goals (refine nx_cond rfl (fun hc => ?_) (fun hc => ?_)); all_goals (first | (exact Bool.noConfusion (hc.symm.trans (by first | rfl | assumption) : true = false)) | (exact Bool.noConfusion (hc.symm.trans (by first | rfl | assumption) : false = true)) | (all_goals (refine nx_seq ?_; refine nx_region ?_; refine nx_op ?_; refine opw_yld (Yld.move rfl) rfl ?_; refine nx_op ?_; refine opw_yld (Yld.assign rfl) rfl ?_; refine nx_op ?_; refine opw_yld (Yld.assign rfl) rfl ?_; refine nx_nil ?_; refine kp_code_normal ?_; refine nx_ret ?_; refine kp_blk_ret ?_; refine kp_code_ret ?_); all_goals (exact res2 (by first | exact .inl rfl | exact .inr rfl) Tryd.results43 rfl rfl [T.chunk] inferInstance ⟨rfl, rfl⟩)) | (all_goals (refine nx_seq ?_; refine nx_region ?_; refine nx_op ?_; refine opw_yld (Yld.move rfl) rfl ?_; refine nx_op ?_; refine opw_yld (Yld.nilCheck rfl) rfl ?_; refine nx_op ?_; refine opw_yld (Yld.fieldAddr rfl) rfl ?_; refine nx_op ?_; refine opw_yld (Yld.load rfl) rfl ?_; refine nx_op ?_; refine opw_yld (Yld.lenMap rfl (by assumption)) rfl ?_; refine nx_op ?_; refine opw_yld (Yld.cmp rfl rfl rfl) rfl ?_; refine nx_op ?_; refine opw_yld (Yld.assign rfl) rfl ?_; refine nx_nil ?_; refine kp_code_normal ?_); all_goals (refine nx_cond rfl (fun hc => ?_) (fun hc => ?_)); all_goals (first | (exact Bool.noConfusion (hc.symm.trans (by first | rfl | assumption) : true = false)) | (exact Bool.noConfusion (hc.symm.trans (by first | rfl | assumption) : false = true)) | (all_goals (refine nx_seq ?_; refine nx_region ?_; refine nx_op ?_; refine opw_yld (Yld.assign rfl) rfl ?_; refine nx_op ?_; refine opw_yld (Yld.assign rfl) rfl ?_; refine nx_nil ?_; refine kp_code_normal ?_; refine nx_ret ?_; refine kp_blk_ret ?_; refine kp_code_ret ?_); all_goals (exact res2 (by first | exact .inl rfl | exact .inr rfl) Tryd.results43 rfl rfl [T.chunk] inferInstance ⟨rfl, rfl⟩)) | (all_goals refine nx_skip ?_))))))))
    all_goals (refine kp_blk_normal ?_; refine kp_code_normal ?_; refine nx_seq ?_; refine nx_region ?_; refine nx_op ?_; refine opw_yld (Yld.move rfl) rfl ?_)
    all_goals (refine nx_op ?_; (fail))
    all_goals (refine nx_op ?_; refine opw_yld (Yld.assign rfl) rfl ?_; refine nx_nil ?_; refine kp_code_normal ?_; refine nx_seq ?_; refine nx_region ?_; refine nx_op ?_; refine opw_yld (Yld.move rfl) rfl ?_; refine nx_op ?_; refine opw_yld (Yld.move rfl) rfl ?_; refine nx_op ?_; refine opw_yld (Yld.move rfl) rfl ?_)
    all_goals (refine nx_op ?_; (fail))
    all_goals (refine nx_op ?_; refine opw_yld (Yld.build rfl rfl) rfl ?_)
    all_goals (refine nx_op ?_; refine opw_alc (Alc.boxAgg rfl) rfl (fun b61 => ?_))
    all_goals (refine nx_op ?_; refine opw_yld (Yld.assign rfl) rfl ?_; refine nx_nil ?_; refine kp_code_normal ?_; refine nx_seq ?_; refine nx_seq ?_; refine nx_region ?_; refine nx_op ?_; refine opw_yld (Yld.move rfl) rfl ?_; refine nx_op ?_; refine opw_yld (Yld.cmp rfl rfl rfl) rfl ?_; refine nx_nil ?_; refine kp_code_normal ?_)
    all_goals (refine nx_cond rfl (fun hc => ?_) (fun hc => ?_))
    all_goals (first | (exact Bool.noConfusion (hc.symm.trans (by first | rfl | assumption) : true = false)) | (exact Bool.noConfusion (hc.symm.trans (by first | rfl | assumption) : false = true)) | (all_goals (refine nx_region ?_; refine nx_op ?_; refine opw_yld (Yld.move rfl) rfl ?_; refine nx_op ?_; refine opw_yld (Yld.move rfl) rfl ?_; refine nx_op ?_; refine opw_yld (Yld.nilCheck rfl) rfl ?_; refine nx_op ?_; refine opw_yld (Yld.fieldAddr rfl) rfl ?_); all_goals (refine nx_op ?_; refine opw_store rfl rfl rfl ?_); all_goals refine nx_nil ?_) | (all_goals refine nx_skip ?_))
    all_goals (refine kp_code_normal ?_; refine nx_seq ?_; refine nx_region ?_; refine nx_op ?_; refine opw_yld (Yld.move rfl) rfl ?_; refine nx_op ?_; refine opw_yld (Yld.nilCheck rfl) rfl ?_; refine nx_op ?_; refine opw_yld (Yld.fieldAddr rfl) rfl ?_; refine nx_op ?_; refine opw_yld (Yld.load rfl) rfl ?_; refine nx_op ?_; refine opw_yld (Yld.move rfl) rfl ?_; refine nx_op ?_; refine opw_yld (Yld.move rfl) rfl ?_)
    all_goals (refine nx_op ?_; refine opw_mapUpdate rfl rfl rfl (by assumption) (fun _ _ _ => ?_))
    all_goals (refine nx_nil ?_; refine kp_code_normal ?_; refine nx_seq ?_; refine nx_region ?_; refine nx_op ?_; refine opw_yld (Yld.move rfl) rfl ?_; refine nx_op ?_; refine opw_yld (Yld.move rfl) rfl ?_; refine nx_op ?_; refine opw_yld (Yld.nilCheck rfl) rfl ?_; refine nx_op ?_; refine opw_yld (Yld.fieldAddr rfl) rfl ?_; refine nx_op ?_; refine opw_yld (Yld.load rfl) rfl ?_; refine nx_op ?_; refine opw_yld (Yld.move rfl) rfl ?_; refine nx_op ?_; refine opw_yld (Yld.move rfl) rfl ?_; refine nx_op ?_; refine opw_yld (Yld.move rfl) rfl ?_; refine nx_op ?_; refine opw_yld (Yld.build rfl rfl) rfl ?_)
    all_goals (refine nx_op ?_; refine opw_alc (Alc.buildSlice rfl (by rfl) (by rfl) (by rfl) (by rfl)) rfl (fun b83 => ?_))
    all_goals (refine nx_op ?_; fail "builtin append: r16.10")
    all_goals (refine nx_op ?_; refine opw_yld (Yld.nilCheck rfl) rfl ?_; refine nx_op ?_; refine opw_yld (Yld.fieldAddr rfl) rfl ?_)
    all_goals (refine nx_op ?_; refine opw_store rfl rfl rfl ?_)
    all_goals (refine nx_nil ?_; refine kp_code_normal ?_; refine nx_seq ?_; refine nx_region ?_; refine nx_op ?_; refine opw_yld (Yld.move rfl) rfl ?_; refine nx_op ?_; refine opw_yld (Yld.assign rfl) rfl ?_; refine nx_op ?_; refine opw_yld (Yld.assign rfl) rfl ?_; refine nx_nil ?_; refine kp_code_normal ?_; refine nx_ret ?_)
    all_goals (exact res2 (by first | exact .inl rfl | exact .inr rfl) Tryd.results43 rfl rfl [T.chunk] inferInstance ⟨rfl, rfl⟩)
  | some x =>
    have hf2 : fndA (abs T.S) dir = some x.f := by rw [fndA_abs, hf]; rfl
    by_cases hp : placeR T.S dir (bs nm) = 0
    · have hp2 : placeA (abs T.S) dir (bs nm) = 0 := by rw [← placeR_abs, hp]
      have hr2 : r = (bif !goodB kind mode data then 22 else if 1024 ≤ (abs T.S).length then 28 else 0) := by
        rw [← hr]; simp only [makeA, hp2, hf2]; cases goodB kind mode data <;> simp; split <;> rfl
      refine sp_enter Tryd.func43 rfl Tryd.ntmps43 rfl (fun g => ?_)
      simp only [argFr, List.nil_append, List.cons_append, Nat.reduceAdd]
      all_goals (refine nx_seq ?_; refine nx_region ?_; refine nx_op ?_; refine opw_yld (Yld.assign rfl) rfl ?_; refine nx_op ?_; refine opw_yld (Yld.assign rfl) rfl ?_; refine nx_nil ?_; refine kp_code_normal ?_; refine nx_seq ?_; refine nx_region ?_; refine nx_op ?_; refine opw_yld (Yld.move rfl) rfl ?_; refine nx_op ?_; refine opw_yld (Yld.move rfl) rfl ?_; refine nx_op ?_; refine opw_yld (Yld.move rfl) rfl ?_)
      all_goals (refine nx_op ?_; (refine opw_call rfl (sp94 (InT.of hT (by simp +contextual)) dir nm) inferInstance rfl ?_; rintro _ _ ⟨rfl, rfl⟩; simp only [List.nil_append, placeV, hp, if_true, hf, ptrO]))
      all_goals (refine nx_op ?_; refine opw_yld (Yld.move rfl) rfl ?_; refine nx_op ?_; refine opw_yld (Yld.extract rfl rfl) rfl ?_; refine nx_op ?_; refine opw_yld (Yld.extract rfl rfl) rfl ?_; refine nx_op ?_; refine opw_yld (Yld.assign rfl) rfl ?_; refine nx_op ?_; refine opw_yld (Yld.assign rfl) rfl ?_; refine nx_nil ?_; refine kp_code_normal ?_; refine nx_seq ?_; refine nx_block ?_; refine nx_seq ?_; refine nx_seq ?_; refine nx_region ?_; refine nx_op ?_; refine opw_yld (Yld.move rfl) rfl ?_; refine nx_op ?_; refine opw_yld (Yld.cmp rfl rfl rfl) rfl ?_; refine nx_op ?_; refine opw_yld (Yld.move rfl) rfl ?_)
      all_goals (first | refine nx_guard_n rfl (by first | rfl | assumption) rfl ?_ | refine nx_guard_u rfl rfl ?_ | ((first | refine nx_guard_y rfl (by first | rfl | assumption) ?_ | refine nx_guard rfl rfl (fun hc => ?_) (fun hc => ?_)); all_goals (first | (refine opw_yld (Yld.move rfl) rfl ?_) | skip)))
      all_goals (first | refine nx_guard_n rfl (by first | rfl | assumption) rfl ?_ | refine nx_guard_u rfl rfl ?_ | ((first | refine nx_guard_y rfl (by first | rfl | assumption) ?_ | refine nx_guard rfl rfl (fun hc => ?_) (fun hc => ?_)); all_goals (first | (refine opw_yld (Yld.move rfl) rfl ?_) | skip)))
      all_goals (first | refine nx_guard_n rfl (by first | rfl | assumption) rfl ?_ | refine nx_guard_u rfl rfl ?_ | ((first | refine nx_guard_y rfl (by first | rfl | assumption) ?_ | refine nx_guard rfl rfl (fun hc => ?_) (fun hc => ?_)); all_goals (first | ((refine opw_call rfl (sp67 (InT.of hT (by simp +contextual)) dir) inferInstance rfl ?_; rintro _ _ ⟨rfl, rfl⟩; simp only [List.nil_append, hf, ptrO])) | skip)))
      all_goals (first | refine nx_guard_n rfl (by first | rfl | assumption) rfl ?_ | refine nx_guard_u rfl rfl ?_ | ((first | refine nx_guard_y rfl (by first | rfl | assumption) ?_ | refine nx_guard rfl rfl (fun hc => ?_) (fun hc => ?_)); all_goals (first | (refine opw_yld (Yld.eqNil rfl rfl) rfl ?_) | skip)))
      all_goals (refine nx_op ?_; (first | refine opw_yld (Yld.pick_t rfl (by first | rfl | assumption) rfl) rfl ?_ | refine opw_yld (Yld.pick_f rfl (by first | rfl | assumption) rfl) rfl ?_))
      all_goals (refine nx_op ?_; refine opw_yld (Yld.assign rfl) rfl ?_; refine nx_nil ?_; refine kp_code_normal ?_)
      all_goals (refine nx_cond rfl (fun hc => ?_) (fun hc => ?_))
      all_goals (first | (exact Bool.noConfusion (hc.symm.trans (by first | rfl | assumption) : true = false)) | (exact Bool.noConfusion (hc.symm.trans (by first | rfl | assumption) : false = true)) | (all_goals refine nx_skip ?_) | (all_goals (refine nx_region ?_; refine nx_op ?_; refine opw_yld (Yld.move rfl) rfl ?_; refine nx_op ?_; refine opw_yld (Yld.cmp rfl rfl rfl) rfl ?_; refine nx_op ?_; refine opw_yld (Yld.assign rfl) rfl ?_; refine nx_nil ?_)))
      all_goals refine kp_code_normal ?_
      all_goals (refine nx_cond rfl (fun hc => ?_) (fun hc => ?_))
      all_goals (first | (exact Bool.noConfusion (hc.symm.trans (by first | rfl | assumption) : true = false)) | (exact Bool.noConfusion (hc.symm.trans (by first | rfl | assumption) : false = true)) | (all_goals (refine nx_seq ?_; refine nx_region ?_; refine nx_op ?_; refine opw_yld (Yld.move rfl) rfl ?_; refine nx_op ?_; refine opw_yld (Yld.assign rfl) rfl ?_; refine nx_op ?_; refine opw_yld (Yld.assign rfl) rfl ?_; refine nx_nil ?_; refine kp_code_normal ?_; refine nx_ret ?_; refine kp_blk_ret ?_; refine kp_code_ret ?_); all_goals (exact res2 (by first | exact .inl rfl | exact .inr rfl) Tryd.results43 rfl rfl [T.chunk] inferInstance ⟨by simp_all [makeA], rfl⟩)) | (all_goals (refine nx_seq ?_; refine nx_region ?_; refine nx_op ?_; refine opw_yld (Yld.move rfl) rfl ?_; refine nx_op ?_; refine opw_yld (Yld.move rfl) rfl ?_; refine nx_op ?_; refine opw_yld (Yld.move rfl) rfl ?_); all_goals (refine nx_op ?_; (refine opw_call rfl (h95 _ (by simp +contextual)) inferInstance rfl ?_; rintro _ _ ⟨rfl, rfl⟩; simp only [List.nil_append])); all_goals (refine nx_op ?_; refine opw_yld (Yld.not rfl) rfl ?_; refine nx_op ?_; refine opw_yld (Yld.assign rfl) rfl ?_; refine nx_nil ?_; refine kp_code_normal ?_); all_goals (refine nx_cond rfl (fun hc => ?_) (fun hc => ?_)); all_goals (first | (exact Bool.noConfusion (hc.symm.trans (by first | rfl | assumption) : true = false)) | (exact Bool.noConfusion (hc.symm.trans (by first | rfl | assumption) : false = true)) | (all_goals (refine nx_seq ?_; refine nx_region ?_; refine nx_op ?_; refine opw_yld (Yld.assign rfl) rfl ?_; refine nx_op ?_; refine opw_yld (Yld.assign rfl) rfl ?_; refine nx_nil ?_; refine kp_code_normal ?_; refine nx_ret ?_; refine kp_blk_ret ?_; refine kp_code_ret ?_); all_goals (exact res2 (by first | exact .inl rfl | exact .inr rfl) Tryd.results43 rfl rfl [T.chunk] inferInstance ⟨by simp_all [makeA], rfl⟩)) | (all_goals (refine nx_seq ?_; refine nx_region ?_; refine nx_op ?_; refine opw_yld (Yld.move rfl) rfl ?_; refine nx_op ?_; refine opw_yld (Yld.cmp rfl rfl rfl) rfl ?_; refine nx_op ?_; refine opw_yld (Yld.assign rfl) rfl ?_; refine nx_nil ?_; refine kp_code_normal ?_); all_goals (refine nx_cond rfl (fun hc => ?_) (fun hc => ?_)); all_goals (first | (exact Bool.noConfusion (hc.symm.trans (by first | rfl | assumption) : true = false)) | (exact Bool.noConfusion (hc.symm.trans (by first | rfl | assumption) : false = true)) | (all_goals (refine nx_seq ?_; refine nx_region ?_; refine nx_op ?_; refine opw_yld (Yld.move rfl) rfl ?_; refine nx_op ?_; refine opw_yld (Yld.assign rfl) rfl ?_; refine nx_op ?_; refine opw_yld (Yld.assign rfl) rfl ?_; refine nx_nil ?_; refine kp_code_normal ?_; refine nx_ret ?_; refine kp_blk_ret ?_; refine kp_code_ret ?_); all_goals (exact res2 (by first | exact .inl rfl | exact .inr rfl) Tryd.results43 rfl rfl [T.chunk] inferInstance ⟨by simp_all [makeA], rfl⟩)) | (all_goals (refine nx_seq ?_; refine nx_region ?_; refine nx_op ?_; refine opw_yld (Yld.move rfl) rfl ?_; refine nx_op ?_; refine opw_yld (Yld.nilCheck rfl) rfl ?_; refine nx_op ?_; refine opw_yld (Yld.fieldAddr rfl) rfl ?_; refine nx_op ?_; refine opw_yld (Yld.load rfl) rfl ?_; refine nx_op ?_; refine opw_yld (Yld.lenMap rfl hm) rfl ?_; refine nx_op ?_; refine opw_yld (Yld.cmp rfl rfl rfl) rfl ?_; refine nx_op ?_; refine opw_yld (Yld.assign rfl) rfl ?_; refine nx_nil ?_; refine kp_code_normal ?_); all_goals (refine nx_cond rfl (fun hc => ?_) (fun hc => ?_)); all_goals (first | (exact Bool.noConfusion (hc.symm.trans (by first | rfl | assumption) : true = false)) | (exact Bool.noConfusion (hc.symm.trans (by first | rfl | assumption) : false = true)) | (all_goals (refine nx_seq ?_; refine nx_region ?_; refine nx_op ?_; refine opw_yld (Yld.assign rfl) rfl ?_; refine nx_op ?_; refine opw_yld (Yld.assign rfl) rfl ?_; refine nx_nil ?_; refine kp_code_normal ?_; refine nx_ret ?_; refine kp_blk_ret ?_; refine kp_code_ret ?_); all_goals (exact res2 (by first | exact .inl rfl | exact .inr rfl) Tryd.results43 rfl rfl [T.chunk] inferInstance ⟨by simp_all [makeA], rfl⟩)) | (all_goals refine nx_skip ?_))))))))
      all_goals (refine kp_blk_normal ?_; refine kp_code_normal ?_; refine nx_seq ?_; refine nx_region ?_; refine nx_op ?_; refine opw_yld (Yld.move rfl) rfl ?_)
      all_goals (refine nx_op ?_; (exfalso; simp_all; omega))
      all_goals (refine nx_op ?_; refine opw_yld (Yld.assign rfl) rfl ?_; refine nx_nil ?_; refine kp_code_normal ?_; refine nx_seq ?_; refine nx_region ?_; refine nx_op ?_; refine opw_yld (Yld.move rfl) rfl ?_; refine nx_op ?_; refine opw_yld (Yld.move rfl) rfl ?_; refine nx_op ?_; refine opw_yld (Yld.move rfl) rfl ?_)
      all_goals (refine nx_op ?_; (exfalso; simp_all; omega))
      all_goals (refine nx_op ?_; refine opw_yld (Yld.build rfl rfl) rfl ?_)
      all_goals (refine nx_op ?_; refine opw_alc (Alc.boxAgg rfl) rfl (fun b61 => ?_))
      all_goals (refine nx_op ?_; refine opw_yld (Yld.assign rfl) rfl ?_; refine nx_nil ?_; refine kp_code_normal ?_; refine nx_seq ?_; refine nx_seq ?_; refine nx_region ?_; refine nx_op ?_; refine opw_yld (Yld.move rfl) rfl ?_; refine nx_op ?_; refine opw_yld (Yld.cmp rfl rfl rfl) rfl ?_; refine nx_nil ?_; refine kp_code_normal ?_)
      all_goals (refine nx_cond rfl (fun hc => ?_) (fun hc => ?_))
      all_goals (first | (exact Bool.noConfusion (hc.symm.trans (by first | rfl | assumption) : true = false)) | (exact Bool.noConfusion (hc.symm.trans (by first | rfl | assumption) : false = true)) | (all_goals (refine nx_region ?_; refine nx_op ?_; refine opw_yld (Yld.move rfl) rfl ?_; refine nx_op ?_; refine opw_yld (Yld.move rfl) rfl ?_; refine nx_op ?_; refine opw_yld (Yld.nilCheck rfl) rfl ?_; refine nx_op ?_; refine opw_yld (Yld.fieldAddr rfl) rfl ?_); all_goals (refine nx_op ?_; refine opw_store rfl rfl rfl ?_); all_goals refine nx_nil ?_) | (all_goals refine nx_skip ?_))
      all_goals (refine kp_code_normal ?_; refine nx_seq ?_; refine nx_region ?_; refine nx_op ?_; refine opw_yld (Yld.move rfl) rfl ?_; refine nx_op ?_; refine opw_yld (Yld.nilCheck rfl) rfl ?_; refine nx_op ?_; refine opw_yld (Yld.fieldAddr rfl) rfl ?_; refine nx_op ?_; refine opw_yld (Yld.load rfl) rfl ?_; refine nx_op ?_; refine opw_yld (Yld.move rfl) rfl ?_; refine nx_op ?_; refine opw_yld (Yld.move rfl) rfl ?_)
      all_goals (refine nx_op ?_; refine opw_mapUpdate rfl rfl rfl (by assumption) (fun _ _ _ => ?_))
      all_goals (refine nx_nil ?_; refine kp_code_normal ?_; refine nx_seq ?_; refine nx_region ?_; refine nx_op ?_; refine opw_yld (Yld.move rfl) rfl ?_; refine nx_op ?_; refine opw_yld (Yld.move rfl) rfl ?_; refine nx_op ?_; refine opw_yld (Yld.nilCheck rfl) rfl ?_; refine nx_op ?_; refine opw_yld (Yld.fieldAddr rfl) rfl ?_; refine nx_op ?_; refine opw_yld (Yld.load rfl) rfl ?_; refine nx_op ?_; refine opw_yld (Yld.move rfl) rfl ?_; refine nx_op ?_; refine opw_yld (Yld.move rfl) rfl ?_; refine nx_op ?_; refine opw_yld (Yld.move rfl) rfl ?_; refine nx_op ?_; refine opw_yld (Yld.build rfl rfl) rfl ?_)
      all_goals (refine nx_op ?_; refine opw_alc (Alc.buildSlice rfl (by rfl) (by rfl) (by rfl) (by rfl)) rfl (fun b83 => ?_))
      all_goals (refine nx_op ?_; fail "builtin append: r16.10")
      all_goals (refine nx_op ?_; refine opw_yld (Yld.nilCheck rfl) rfl ?_; refine nx_op ?_; refine opw_yld (Yld.fieldAddr rfl) rfl ?_)
      all_goals (refine nx_op ?_; refine opw_store rfl rfl rfl ?_)
      all_goals (refine nx_nil ?_; refine kp_code_normal ?_; refine nx_seq ?_; refine nx_region ?_; refine nx_op ?_; refine opw_yld (Yld.move rfl) rfl ?_; refine nx_op ?_; refine opw_yld (Yld.assign rfl) rfl ?_; refine nx_op ?_; refine opw_yld (Yld.assign rfl) rfl ?_; refine nx_nil ?_; refine kp_code_normal ?_; refine nx_ret ?_)
      all_goals (exact res2 (by first | exact .inl rfl | exact .inr rfl) Tryd.results43 rfl rfl [T.chunk] inferInstance ⟨by simp_all [makeA], rfl⟩)
    · have hp2 : placeA (abs T.S) dir (bs nm) = placeR T.S dir (bs nm) := by rw [← placeR_abs]
      have hr2 : r = (if placeR T.S dir (bs nm) = 20 then 20 else bif !goodB kind mode data then 22 else placeR T.S dir (bs nm)) := by
        rw [← hr]; simp only [makeA, hp2, hf2]; cases goodB kind mode data <;> simp [hp] <;> split <;> simp_all
      generalize hq : placeR T.S dir (bs nm) = q at *
      refine sp_enter Tryd.func43 rfl Tryd.ntmps43 rfl (fun g => ?_)
      simp only [argFr, List.nil_append, List.cons_append, Nat.reduceAdd]
      all_goals (refine nx_seq ?_; refine nx_region ?_; refine nx_op ?_; refine opw_yld (Yld.assign rfl) rfl ?_; refine nx_op ?_; refine opw_yld (Yld.assign rfl) rfl ?_; refine nx_nil ?_; refine kp_code_normal ?_; refine nx_seq ?_; refine nx_region ?_; refine nx_op ?_; refine opw_yld (Yld.move rfl) rfl ?_; refine nx_op ?_; refine opw_yld (Yld.move rfl) rfl ?_; refine nx_op ?_; refine opw_yld (Yld.move rfl) rfl ?_)
      all_goals (refine nx_op ?_; (refine opw_call rfl (sp94 (InT.of hT (by simp +contextual)) dir nm) inferInstance rfl ?_; rintro _ _ ⟨rfl, rfl⟩; simp only [List.nil_append, placeV, hq, hp, if_false]))
      all_goals (refine nx_op ?_; refine opw_yld (Yld.move rfl) rfl ?_; refine nx_op ?_; refine opw_yld (Yld.extract rfl rfl) rfl ?_; refine nx_op ?_; refine opw_yld (Yld.extract rfl rfl) rfl ?_; refine nx_op ?_; refine opw_yld (Yld.assign rfl) rfl ?_; refine nx_op ?_; refine opw_yld (Yld.assign rfl) rfl ?_; refine nx_nil ?_; refine kp_code_normal ?_; refine nx_seq ?_; refine nx_block ?_; refine nx_seq ?_; refine nx_seq ?_; refine nx_region ?_; refine nx_op ?_; refine opw_yld (Yld.move rfl) rfl ?_; refine nx_op ?_; refine opw_yld (Yld.cmp rfl rfl rfl) rfl ?_; refine nx_op ?_; refine opw_yld (Yld.move rfl) rfl ?_)
      all_goals (first | refine nx_guard_n rfl (by first | rfl | assumption) rfl ?_ | refine nx_guard_u rfl rfl ?_ | ((first | refine nx_guard_y rfl (by first | rfl | assumption) ?_ | refine nx_guard rfl rfl (fun hc => ?_) (fun hc => ?_)); all_goals (first | (refine opw_yld (Yld.move rfl) rfl ?_) | skip)))
      all_goals (first | refine nx_guard_n rfl (by first | rfl | assumption) rfl ?_ | refine nx_guard_u rfl rfl ?_ | ((first | refine nx_guard_y rfl (by first | rfl | assumption) ?_ | refine nx_guard rfl rfl (fun hc => ?_) (fun hc => ?_)); all_goals (first | (refine opw_yld (Yld.move rfl) rfl ?_) | skip)))
      all_goals (first | refine nx_guard_n rfl (by first | rfl | assumption) rfl ?_ | refine nx_guard_u rfl rfl ?_ | ((first | refine nx_guard_y rfl (by first | rfl | assumption) ?_ | refine nx_guard rfl rfl (fun hc => ?_) (fun hc => ?_)); all_goals (first | ((refine opw_call rfl (sp67 (InT.of hT (by simp +contextual)) dir) inferInstance rfl ?_; rintro _ _ ⟨rfl, rfl⟩; simp only [List.nil_append, hf, ptrO])) | skip)))
      all_goals (first | refine nx_guard_n rfl (by first | rfl | assumption) rfl ?_ | refine nx_guard_u rfl rfl ?_ | ((first | refine nx_guard_y rfl (by first | rfl | assumption) ?_ | refine nx_guard rfl rfl (fun hc => ?_) (fun hc => ?_)); all_goals (first | (refine opw_yld (Yld.eqNil rfl rfl) rfl ?_) | skip)))
      all_goals (refine nx_op ?_; (first | refine opw_yld (Yld.pick_t rfl (by first | rfl | assumption) rfl) rfl ?_ | refine opw_yld (Yld.pick_f rfl (by first | rfl | assumption) rfl) rfl ?_))
      all_goals (refine nx_op ?_; refine opw_yld (Yld.assign rfl) rfl ?_; refine nx_nil ?_; refine kp_code_normal ?_)
      all_goals (refine nx_cond rfl (fun hc => ?_) (fun hc => ?_))
      all_goals (first | (exact Bool.noConfusion (hc.symm.trans (by first | rfl | assumption) : true = false)) | (exact Bool.noConfusion (hc.symm.trans (by first | rfl | assumption) : false = true)) | (all_goals refine nx_skip ?_) | (all_goals (refine nx_region ?_; refine nx_op ?_; refine opw_yld (Yld.move rfl) rfl ?_; refine nx_op ?_; refine opw_yld (Yld.cmp rfl rfl rfl) rfl ?_; refine nx_op ?_; refine opw_yld (Yld.assign rfl) rfl ?_; refine nx_nil ?_)))
      all_goals refine kp_code_normal ?_
      all_goals (refine nx_cond rfl (fun hc => ?_) (fun hc => ?_))
      all_goals (first | (exact Bool.noConfusion (hc.symm.trans (by first | rfl | assumption) : true = false)) | (exact Bool.noConfusion (hc.symm.trans (by first | rfl | assumption) : false = true)) | (all_goals (refine nx_seq ?_; refine nx_region ?_; refine nx_op ?_; refine opw_yld (Yld.move rfl) rfl ?_; refine nx_op ?_; refine opw_yld (Yld.assign rfl) rfl ?_; refine nx_op ?_; refine opw_yld (Yld.assign rfl) rfl ?_; refine nx_nil ?_; refine kp_code_normal ?_; refine nx_ret ?_; refine kp_blk_ret ?_; refine kp_code_ret ?_); all_goals (exact res2 (by first | exact .inl rfl | exact .inr rfl) Tryd.results43 rfl rfl [T.chunk] inferInstance ⟨by simp_all, rfl⟩)) | (all_goals (refine nx_seq ?_; refine nx_region ?_; refine nx_op ?_; refine opw_yld (Yld.move rfl) rfl ?_; refine nx_op ?_; refine opw_yld (Yld.move rfl) rfl ?_; refine nx_op ?_; refine opw_yld (Yld.move rfl) rfl ?_); all_goals (refine nx_op ?_; (refine opw_call rfl (h95 _ (by simp +contextual)) inferInstance rfl ?_; rintro _ _ ⟨rfl, rfl⟩; simp only [List.nil_append])); all_goals (refine nx_op ?_; refine opw_yld (Yld.not rfl) rfl ?_; refine nx_op ?_; refine opw_yld (Yld.assign rfl) rfl ?_; refine nx_nil ?_; refine kp_code_normal ?_); all_goals (refine nx_cond rfl (fun hc => ?_) (fun hc => ?_)); all_goals (first | (exact Bool.noConfusion (hc.symm.trans (by first | rfl | assumption) : true = false)) | (exact Bool.noConfusion (hc.symm.trans (by first | rfl | assumption) : false = true)) | (all_goals (refine nx_seq ?_; refine nx_region ?_; refine nx_op ?_; refine opw_yld (Yld.assign rfl) rfl ?_; refine nx_op ?_; refine opw_yld (Yld.assign rfl) rfl ?_; refine nx_nil ?_; refine kp_code_normal ?_; refine nx_ret ?_; refine kp_blk_ret ?_; refine kp_code_ret ?_); all_goals (exact res2 (by first | exact .inl rfl | exact .inr rfl) Tryd.results43 rfl rfl [T.chunk] inferInstance ⟨by simp_all, rfl⟩)) | (all_goals (refine nx_seq ?_; refine nx_region ?_; refine nx_op ?_; refine opw_yld (Yld.move rfl) rfl ?_; refine nx_op ?_; refine opw_yld (Yld.cmp rfl rfl rfl) rfl ?_; refine nx_op ?_; refine opw_yld (Yld.assign rfl) rfl ?_; refine nx_nil ?_; refine kp_code_normal ?_); all_goals (refine nx_cond rfl (fun hc => ?_) (fun hc => ?_)); all_goals (first | (exact Bool.noConfusion (hc.symm.trans (by first | rfl | assumption) : true = false)) | (exact Bool.noConfusion (hc.symm.trans (by first | rfl | assumption) : false = true)) | (all_goals (refine nx_seq ?_; refine nx_region ?_; refine nx_op ?_; refine opw_yld (Yld.move rfl) rfl ?_; refine nx_op ?_; refine opw_yld (Yld.assign rfl) rfl ?_; refine nx_op ?_; refine opw_yld (Yld.assign rfl) rfl ?_; refine nx_nil ?_; refine kp_code_normal ?_; refine nx_ret ?_; refine kp_blk_ret ?_; refine kp_code_ret ?_); all_goals (exact res2 (by first | exact .inl rfl | exact .inr rfl) Tryd.results43 rfl rfl [T.chunk] inferInstance ⟨by simp_all, rfl⟩)) | (all_goals (refine nx_seq ?_; refine nx_region ?_; refine nx_op ?_; refine opw_yld (Yld.move rfl) rfl ?_; refine nx_op ?_; refine opw_yld (Yld.nilCheck rfl) rfl ?_; refine nx_op ?_; refine opw_yld (Yld.fieldAddr rfl) rfl ?_; refine nx_op ?_; refine opw_yld (Yld.load rfl) rfl ?_); all_goals (refine nx_op ?_; exfalso; simp_all; done); all_goals (refine nx_op ?_; refine opw_yld (Yld.cmp rfl rfl rfl) rfl ?_; refine nx_op ?_; refine opw_yld (Yld.assign rfl) rfl ?_; refine nx_nil ?_; refine kp_code_normal ?_); all_goals (refine nx_cond rfl (fun hc => ?_) (fun hc => ?_)); all_goals (first | (exact Bool.noConfusion (hc.symm.trans (by first | rfl | assumption) : true = false)) | (exact Bool.noConfusion (hc.symm.trans (by first | rfl | assumption) : false = true)) | (all_goals (refine nx_seq ?_; refine nx_region ?_; refine nx_op ?_; refine opw_yld (Yld.assign rfl) rfl ?_; refine nx_op ?_; refine opw_yld (Yld.assign rfl) rfl ?_; refine nx_nil ?_; refine kp_code_normal ?_; refine nx_ret ?_; refine kp_blk_ret ?_; refine kp_code_ret ?_); all_goals (exact res2 (by first | exact .inl rfl | exact .inr rfl) Tryd.results43 rfl rfl [T.chunk] inferInstance ⟨by simp_all, rfl⟩)) | (all_goals refine nx_skip ?_))))))))
      all_goals (refine kp_blk_normal ?_; refine kp_code_normal ?_; refine nx_seq ?_; refine nx_region ?_; refine nx_op ?_; refine opw_yld (Yld.move rfl) rfl ?_)
      all_goals (refine nx_op ?_; (fail))
      all_goals (refine nx_op ?_; refine opw_yld (Yld.assign rfl) rfl ?_; refine nx_nil ?_; refine kp_code_normal ?_; refine nx_seq ?_; refine nx_region ?_; refine nx_op ?_; refine opw_yld (Yld.move rfl) rfl ?_; refine nx_op ?_; refine opw_yld (Yld.move rfl) rfl ?_; refine nx_op ?_; refine opw_yld (Yld.move rfl) rfl ?_)
      all_goals (refine nx_op ?_; (fail))
      all_goals (refine nx_op ?_; refine opw_yld (Yld.build rfl rfl) rfl ?_)
      all_goals (refine nx_op ?_; refine opw_alc (Alc.boxAgg rfl) rfl (fun b61 => ?_))
      all_goals (refine nx_op ?_; refine opw_yld (Yld.assign rfl) rfl ?_; refine nx_nil ?_; refine kp_code_normal ?_; refine nx_seq ?_; refine nx_seq ?_; refine nx_region ?_; refine nx_op ?_; refine opw_yld (Yld.move rfl) rfl ?_; refine nx_op ?_; refine opw_yld (Yld.cmp rfl rfl rfl) rfl ?_; refine nx_nil ?_; refine kp_code_normal ?_)
      all_goals (refine nx_cond rfl (fun hc => ?_) (fun hc => ?_))
      all_goals (first | (exact Bool.noConfusion (hc.symm.trans (by first | rfl | assumption) : true = false)) | (exact Bool.noConfusion (hc.symm.trans (by first | rfl | assumption) : false = true)) | (all_goals (refine nx_region ?_; refine nx_op ?_; refine opw_yld (Yld.move rfl) rfl ?_; refine nx_op ?_; refine opw_yld (Yld.move rfl) rfl ?_; refine nx_op ?_; refine opw_yld (Yld.nilCheck rfl) rfl ?_; refine nx_op ?_; refine opw_yld (Yld.fieldAddr rfl) rfl ?_); all_goals (refine nx_op ?_; refine opw_store rfl rfl rfl ?_); all_goals refine nx_nil ?_) | (all_goals refine nx_skip ?_))
      all_goals (refine kp_code_normal ?_; refine nx_seq ?_; refine nx_region ?_; refine nx_op ?_; refine opw_yld (Yld.move rfl) rfl ?_; refine nx_op ?_; refine opw_yld (Yld.nilCheck rfl) rfl ?_; refine nx_op ?_; refine opw_yld (Yld.fieldAddr rfl) rfl ?_; refine nx_op ?_; refine opw_yld (Yld.load rfl) rfl ?_; refine nx_op ?_; refine opw_yld (Yld.move rfl) rfl ?_; refine nx_op ?_; refine opw_yld (Yld.move rfl) rfl ?_)
      all_goals (refine nx_op ?_; refine opw_mapUpdate rfl rfl rfl (by assumption) (fun _ _ _ => ?_))
      all_goals (refine nx_nil ?_; refine kp_code_normal ?_; refine nx_seq ?_; refine nx_region ?_; refine nx_op ?_; refine opw_yld (Yld.move rfl) rfl ?_; refine nx_op ?_; refine opw_yld (Yld.move rfl) rfl ?_; refine nx_op ?_; refine opw_yld (Yld.nilCheck rfl) rfl ?_; refine nx_op ?_; refine opw_yld (Yld.fieldAddr rfl) rfl ?_; refine nx_op ?_; refine opw_yld (Yld.load rfl) rfl ?_; refine nx_op ?_; refine opw_yld (Yld.move rfl) rfl ?_; refine nx_op ?_; refine opw_yld (Yld.move rfl) rfl ?_; refine nx_op ?_; refine opw_yld (Yld.move rfl) rfl ?_; refine nx_op ?_; refine opw_yld (Yld.build rfl rfl) rfl ?_)
      all_goals (refine nx_op ?_; refine opw_alc (Alc.buildSlice rfl (by rfl) (by rfl) (by rfl) (by rfl)) rfl (fun b83 => ?_))
      all_goals (refine nx_op ?_; fail "builtin append: r16.10")
      all_goals (refine nx_op ?_; refine opw_yld (Yld.nilCheck rfl) rfl ?_; refine nx_op ?_; refine opw_yld (Yld.fieldAddr rfl) rfl ?_)
      all_goals (refine nx_op ?_; refine opw_store rfl rfl rfl ?_)
      all_goals (refine nx_nil ?_; refine kp_code_normal ?_; refine nx_seq ?_; refine nx_region ?_; refine nx_op ?_; refine opw_yld (Yld.move rfl) rfl ?_; refine nx_op ?_; refine opw_yld (Yld.assign rfl) rfl ?_; refine nx_op ?_; refine opw_yld (Yld.assign rfl) rfl ?_; refine nx_nil ?_; refine kp_code_normal ?_; refine nx_ret ?_)
      all_goals (exact res2 (by first | exact .inl rfl | exact .inr rfl) Tryd.results43 rfl rfl [T.chunk] inferInstance ⟨by simp_all, rfl⟩)
end
end Go.Proofs.YtdobndclhbkooaaDoor
