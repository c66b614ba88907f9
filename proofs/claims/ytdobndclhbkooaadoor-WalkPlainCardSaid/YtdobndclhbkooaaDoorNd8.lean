/- One of the items that a tree has at first. Conditions: the tree is the call's own, the item's bytes lie in the memory that is kept. -/
import Derived.Test.YtdobndclhbkooaaDoorNd7
namespace Go.Proofs.YtdobndclhbkooaaDoor
open Go Go.SL
set_option maxRecDepth 100000
set_option linter.unusedVariables false

theorem makeA_err {A : Fs} {dir : Int} {nm : ByteArray} {kind mode : Int} {data : List UInt8} (h : (makeA A dir nm kind mode data).2.1 ≠ 0) :
    (makeA A dir nm kind mode data).1 = 0 ∧ (makeA A dir nm kind mode data).2.2 = A := by
  revert h
  simp only [makeA]
  split
  · simp
  · cases goodB kind mode data with
    | false => simp
    | true =>
      simp only [Bool.not_true, cond_false]
      split
      · simp
      · split
        · simp
        · cases fndA A dir <;> simp
def tup2 (p q : Int) : Value := .tuple #[.int .i64 p, .int .i64 q]
section
variable {F : Chunk} {T : Tr}
theorem sp43 (hT : T.ok) (hN : T.N < 500000000) (dir : Int) (nm : ByteArray) (kind mode : Int) {v : Value} {data : List UInt8} (hv : Ro F v data.length (bytesV data)) :
    Sp Tryd.prog 43 [.pointer (some ⟨T.t, 0, none⟩), .int .i64 dir, .string nm, .int .i64 kind, .int .i64 mode, v] F [T.chunk]
      (fun v B => v = tup2 (makeA (abs T.S) dir nm kind mode data).1 (makeA (abs T.S) dir nm kind mode data).2.1 ∧ Nxt T (makeA (abs T.S) dir nm kind mode data).2.2 B) := by
  by_cases he : (makeA (abs T.S) dir nm kind mode data).2.1 = 0
  · refine (sp43o hT hN dir nm kind mode hv he).mono ?_
    rintro _ _ ⟨rfl, h⟩
    exact ⟨by rw [he]; rfl, h⟩
  · have h2 := makeA_err he
    refine (sp43e hT dir nm kind mode hv he).mono ?_
    rintro _ _ ⟨rfl, rfl⟩
    exact ⟨by rw [h2.1]; rfl, T, hT, rfl, by omega, h2.2.symm, rfl⟩

def ofBs (l : List UInt8) : ByteArray := ⟨l.toArray⟩
@[simp] theorem bs_ofBs (l : List UInt8) : bs (ofBs l) = l := by simp [bs, ofBs]
@[simp] theorem ofBs_bs (s : ByteArray) : ofBs (bs s) = s := by simp [bs, ofBs]
/-- Where an item goes: the directory and the last name. -/
def itemGo (A : Fs) : Int → List (List UInt8) → Option (Int × List UInt8)
  | _, [] => none
  | d, [s] => bif goodName s then some (d, s) else none
  | d, s :: r => bif goodName s then (if (findA A d s).2 = 0 then itemGo A (findA A d s).1 r else none) else none
def itemA (A : Fs) (path : ByteArray) (kind mode : Int) (data : List UInt8) : Int × Fs :=
  bif hasPre (bs path) [47] && decide (path.size ≤ 4096) then
    match itemGo A 1 (splitB 47 ((bs path).drop 1)) with
    | none => (203, A)
    | some (d, s) => (if (makeA A d (ofBs s) kind mode data).2.1 = 0 ∨ (makeA A d (ofBs s) kind mode data).2.1 = 28 then (makeA A d (ofBs s) kind mode data).2.1 else 203, (makeA A d (ofBs s) kind mode data).2.2)
  else (203, A)
theorem itemA_pre {A : Fs} {path : ByteArray} {kind mode : Int} {data : List UInt8} (h1 : hasPre (bs path) [47] = true) (h2 : path.size ≤ 4096) : itemA A path kind mode data = (match itemGo A 1 (splitB 47 ((bs path).drop 1)) with
    | none => (203, A)
    | some (d, s) => (if (makeA A d (ofBs s) kind mode data).2.1 = 0 ∨ (makeA A d (ofBs s) kind mode data).2.1 = 28 then (makeA A d (ofBs s) kind mode data).2.1 else 203, (makeA A d (ofBs s) kind mode data).2.2)) := by
  simp [itemA, h1, h2]

theorem Nxt.self (hT : T.ok) : Nxt T (abs T.S) [T.chunk] := ⟨T, hT, rfl, by omega, rfl, rfl⟩
/-- item. -/
theorem sp40 (hT : T.ok) (hN : T.N < 500000000) (path : ByteArray) (kind mode : Int) {v : Value} {data : List UInt8} (hv : Ro F v data.length (bytesV data)) :
    Sp Tryd.prog 40 [.pointer (some ⟨T.t, 0, none⟩), .agg #[.string path, .int .i64 kind, .int .i64 mode, v]] F [T.chunk]
      (fun v B => v = .int .i64 (itemA (abs T.S) path kind mode data).1 ∧ Nxt T (itemA (abs T.S) path kind mode data).2 B) := by
  obtain ⟨a, cap, e⟩ := Ro_slice hv
  subst e
  refine sp_enter Tryd.func40 rfl Tryd.ntmps40 rfl (fun g => ?_)
  simp only [argFr, List.nil_append, List.cons_append, Nat.reduceAdd]
  cases h1 : hasPre (bs path) [47] with
  | false =>
    have e1 : cutPre path ⟨#[47]⟩ = .tuple #[.string path, .bool false] := by simp [cutPre, bs, show hasPre path.data.toList [47] = false from h1]
    all_goals refine nx_seq ?_
    all_goals refine nx_region ?_
    all_goals (refine nx_op ?_; refine opw_alc (Alc.boxAgg rfl) rfl (fun b3 => ?_))
    all_goals (refine nx_op ?_; refine opw_yld (Yld.assign rfl) rfl ?_)
    all_goals refine nx_nil ?_
    all_goals refine kp_code_normal ?_
    all_goals refine nx_seq ?_
    all_goals refine nx_region ?_
    all_goals (refine nx_op ?_; refine opw_yld (Yld.fieldAddr rfl) rfl ?_)
    all_goals (refine nx_op ?_; refine opw_yld (Yld.load rfl) rfl ?_)
    all_goals (refine nx_op ?_; (refine opw_call rfl (sp89 _ _ _) inferInstance rfl ?_; rintro _ _ ⟨rfl, rfl⟩; rw [e1]; simp only [List.nil_append]))
    all_goals (refine nx_op ?_; refine opw_yld (Yld.move rfl) rfl ?_)
    all_goals (refine nx_op ?_; refine opw_yld (Yld.extract rfl rfl) rfl ?_)
    all_goals (refine nx_op ?_; refine opw_yld (Yld.extract rfl rfl) rfl ?_)
    all_goals (refine nx_op ?_; refine opw_yld (Yld.assign rfl) rfl ?_)
    all_goals (refine nx_op ?_; refine opw_yld (Yld.assign rfl) rfl ?_)
    all_goals refine nx_nil ?_
    all_goals refine kp_code_normal ?_
    all_goals refine nx_seq ?_
    all_goals refine nx_seq ?_
    all_goals refine nx_region ?_
    all_goals (refine nx_op ?_; refine opw_yld (Yld.move rfl) rfl ?_)
    all_goals (refine nx_op ?_; refine opw_yld (Yld.not rfl) rfl ?_)
    all_goals (refine nx_op ?_; refine opw_yld (Yld.move rfl) rfl ?_)
    all_goals (first | refine nx_guard_n rfl (by first | rfl | assumption) rfl ?_ | refine nx_guard_u rfl rfl ?_ | ((first | refine nx_guard_y rfl (by first | rfl | assumption) ?_ | refine nx_guard rfl rfl (fun hc => ?_) (fun hc => ?_)); all_goals (first | (refine opw_yld (Yld.fieldAddr rfl) rfl ?_) | skip)))
    all_goals (first | refine nx_guard_n rfl (by first | rfl | assumption) rfl ?_ | refine nx_guard_u rfl rfl ?_ | ((first | refine nx_guard_y rfl (by first | rfl | assumption) ?_ | refine nx_guard rfl rfl (fun hc => ?_) (fun hc => ?_)); all_goals (first | (refine opw_yld (Yld.load rfl) rfl ?_) | skip)))
    all_goals (first | refine nx_guard_n rfl (by first | rfl | assumption) rfl ?_ | refine nx_guard_u rfl rfl ?_ | ((first | refine nx_guard_y rfl (by first | rfl | assumption) ?_ | refine nx_guard rfl rfl (fun hc => ?_) (fun hc => ?_)); all_goals (first | (refine opw_yld (Yld.lenString rfl) rfl ?_) | skip)))
    all_goals (first | refine nx_guard_n rfl (by first | rfl | assumption) rfl ?_ | refine nx_guard_u rfl rfl ?_ | ((first | refine nx_guard_y rfl (by first | rfl | assumption) ?_ | refine nx_guard rfl rfl (fun hc => ?_) (fun hc => ?_)); all_goals (first | (refine opw_yld (Yld.cmp rfl rfl rfl) rfl ?_) | skip)))
    all_goals (refine nx_op ?_; (first | refine opw_yld (Yld.pick_t rfl (by first | rfl | assumption) rfl) rfl ?_ | refine opw_yld (Yld.pick_f rfl (by first | rfl | assumption) rfl) rfl ?_))
    all_goals refine nx_nil ?_
    all_goals refine kp_code_normal ?_
    all_goals (refine nx_cond rfl (fun hc => ?_) (fun hc => ?_))
    all_goals (first | (exact Bool.noConfusion (hc.symm.trans (by first | rfl | assumption) : true = false)) | (exact Bool.noConfusion (hc.symm.trans (by first | rfl | assumption) : false = true)) | (all_goals refine nx_seq ?_; all_goals refine nx_region ?_; all_goals (refine nx_op ?_; refine opw_yld (Yld.assign rfl) rfl ?_); all_goals refine nx_nil ?_; all_goals refine kp_code_normal ?_; all_goals refine nx_ret ?_; all_goals refine kp_code_ret ?_; all_goals (exact res1 (by first | exact .inl rfl | exact .inr rfl) Tryd.results40 rfl [T.chunk] inferInstance ⟨by simp [itemA, h1], by simpa [itemA, h1] using Nxt.self hT⟩)) | (all_goals refine nx_skip ?_))
    all_goals refine kp_code_normal ?_
    all_goals refine nx_seq ?_
    all_goals refine nx_region ?_
    all_goals (refine nx_op ?_; refine opw_yld (Yld.move rfl) rfl ?_)
    all_goals (refine nx_op ?_; fail "call 90: r4.1")
    all_goals (refine nx_op ?_; refine opw_yld (Yld.assign rfl) rfl ?_)
    all_goals refine nx_nil ?_
    all_goals refine kp_code_normal ?_
    all_goals refine nx_seq ?_
    all_goals refine nx_region ?_
    all_goals (refine nx_op ?_; refine opw_yld (Yld.assign rfl) rfl ?_)
    all_goals refine nx_nil ?_
    all_goals refine kp_code_normal ?_
    all_goals refine nx_seq ?_
    all_goals refine nx_seq ?_
    all_goals refine nx_region ?_
    all_goals (refine nx_op ?_; refine opw_yld (Yld.move rfl) rfl ?_)
    all_goals (refine nx_op ?_; refine opw_yld (Yld.lenSlice rfl) rfl ?_)
    all_goals (refine nx_op ?_; refine opw_yld (Yld.move rfl) rfl ?_)
    all_goals refine nx_nil ?_
    all_goals refine kp_code_normal ?_
    all_goals refine nx_block ?_
  | true =>
  have e1 : cutPre path ⟨#[47]⟩ = .tuple #[.string (path.extract 1 path.size), .bool true] := by simp [cutPre, show hasPre (bs path) (bs ⟨#[47]⟩) = true from h1]; rfl
  by_cases h2 : path.size ≤ 4096
  case neg =>
    have hb : decide ((path.size : Int) > 4096) = true := by simp; omega
    all_goals refine nx_seq ?_
    all_goals refine nx_region ?_
    all_goals (refine nx_op ?_; refine opw_alc (Alc.boxAgg rfl) rfl (fun b3 => ?_))
    all_goals (refine nx_op ?_; refine opw_yld (Yld.assign rfl) rfl ?_)
    all_goals refine nx_nil ?_
    all_goals refine kp_code_normal ?_
    all_goals refine nx_seq ?_
    all_goals refine nx_region ?_
    all_goals (refine nx_op ?_; refine opw_yld (Yld.fieldAddr rfl) rfl ?_)
    all_goals (refine nx_op ?_; refine opw_yld (Yld.load rfl) rfl ?_)
    all_goals (refine nx_op ?_; (refine opw_call rfl (sp89 _ _ _) inferInstance rfl ?_; rintro _ _ ⟨rfl, rfl⟩; rw [e1]; simp only [List.nil_append]))
    all_goals (refine nx_op ?_; refine opw_yld (Yld.move rfl) rfl ?_)
    all_goals (refine nx_op ?_; refine opw_yld (Yld.extract rfl rfl) rfl ?_)
    all_goals (refine nx_op ?_; refine opw_yld (Yld.extract rfl rfl) rfl ?_)
    all_goals (refine nx_op ?_; refine opw_yld (Yld.assign rfl) rfl ?_)
    all_goals (refine nx_op ?_; refine opw_yld (Yld.assign rfl) rfl ?_)
    all_goals refine nx_nil ?_
    all_goals refine kp_code_normal ?_
    all_goals refine nx_seq ?_
    all_goals refine nx_seq ?_
    all_goals refine nx_region ?_
    all_goals (refine nx_op ?_; refine opw_yld (Yld.move rfl) rfl ?_)
    all_goals (refine nx_op ?_; refine opw_yld (Yld.not rfl) rfl ?_)
    all_goals (refine nx_op ?_; refine opw_yld (Yld.move rfl) rfl ?_)
    all_goals (first | refine nx_guard_n rfl (by first | rfl | assumption) rfl ?_ | refine nx_guard_u rfl rfl ?_ | ((first | refine nx_guard_y rfl (by first | rfl | assumption) ?_ | refine nx_guard rfl rfl (fun hc => ?_) (fun hc => ?_)); all_goals (first | (refine opw_yld (Yld.fieldAddr rfl) rfl ?_) | skip)))
    all_goals (first | refine nx_guard_n rfl (by first | rfl | assumption) rfl ?_ | refine nx_guard_u rfl rfl ?_ | ((first | refine nx_guard_y rfl (by first | rfl | assumption) ?_ | refine nx_guard rfl rfl (fun hc => ?_) (fun hc => ?_)); all_goals (first | (refine opw_yld (Yld.load rfl) rfl ?_) | skip)))
    all_goals (first | refine nx_guard_n rfl (by first | rfl | assumption) rfl ?_ | refine nx_guard_u rfl rfl ?_ | ((first | refine nx_guard_y rfl (by first | rfl | assumption) ?_ | refine nx_guard rfl rfl (fun hc => ?_) (fun hc => ?_)); all_goals (first | (refine opw_yld (Yld.lenString rfl) rfl ?_) | skip)))
    all_goals (first | refine nx_guard_n rfl (by first | rfl | assumption) rfl ?_ | refine nx_guard_u rfl rfl ?_ | ((first | refine nx_guard_y rfl (by first | rfl | assumption) ?_ | refine nx_guard rfl rfl (fun hc => ?_) (fun hc => ?_)); all_goals (first | (refine opw_yld (Yld.cmp rfl rfl rfl) rfl ?_) | skip)))
    all_goals (refine nx_op ?_; (first | refine opw_yld (Yld.pick_t rfl (by first | rfl | assumption) rfl) rfl ?_ | refine opw_yld (Yld.pick_f rfl (by first | rfl | assumption) rfl) rfl ?_))
    all_goals refine nx_nil ?_
    all_goals refine kp_code_normal ?_
    all_goals (refine nx_cond rfl (fun hc => ?_) (fun hc => ?_))
    all_goals (first | (exact Bool.noConfusion (hc.symm.trans (by first | rfl | assumption) : true = false)) | (exact Bool.noConfusion (hc.symm.trans (by first | rfl | assumption) : false = true)) | (all_goals refine nx_seq ?_; all_goals refine nx_region ?_; all_goals (refine nx_op ?_; refine opw_yld (Yld.assign rfl) rfl ?_); all_goals refine nx_nil ?_; all_goals refine kp_code_normal ?_; all_goals refine nx_ret ?_; all_goals refine kp_code_ret ?_; all_goals (exact res1 (by first | exact .inl rfl | exact .inr rfl) Tryd.results40 rfl [T.chunk] inferInstance ⟨by simp [itemA, h1, h2], by simpa [itemA, h1, h2] using Nxt.self hT⟩)) | (all_goals refine nx_skip ?_))
    all_goals refine kp_code_normal ?_
    all_goals refine nx_seq ?_
    all_goals refine nx_region ?_
    all_goals (refine nx_op ?_; refine opw_yld (Yld.move rfl) rfl ?_)
    all_goals (refine nx_op ?_; fail "call 90: r4.1")
    all_goals (refine nx_op ?_; refine opw_yld (Yld.assign rfl) rfl ?_)
    all_goals refine nx_nil ?_
    all_goals refine kp_code_normal ?_
    all_goals refine nx_seq ?_
    all_goals refine nx_region ?_
    all_goals (refine nx_op ?_; refine opw_yld (Yld.assign rfl) rfl ?_)
    all_goals refine nx_nil ?_
    all_goals refine kp_code_normal ?_
    all_goals refine nx_seq ?_
    all_goals refine nx_seq ?_
    all_goals refine nx_region ?_
    all_goals (refine nx_op ?_; refine opw_yld (Yld.move rfl) rfl ?_)
    all_goals (refine nx_op ?_; refine opw_yld (Yld.lenSlice rfl) rfl ?_)
    all_goals (refine nx_op ?_; refine opw_yld (Yld.move rfl) rfl ?_)
    all_goals refine nx_nil ?_
    all_goals refine kp_code_normal ?_
    all_goals refine nx_block ?_
  have hb : decide ((path.size : Int) > 4096) = false := by simp; omega
  rw [itemA_pre h1 h2]
  have hsz : (path.extract 1 path.size).size < 2147483648 := by simp; omega
  have hbs : bs (path.extract 1 path.size) = (bs path).drop 1 := by rw [bs_extract, List.take_of_length_le (by simp)]
  generalize hG : itemGo (abs T.S) 1 (splitB 47 ((bs path).drop 1)) = G
  have hlist : ∀ s : List UInt8, (splitB 47 s).length ≤ s.length + 1 := fun s => by rw [splitB_len]; have := List.count_le_length (a := 47) (l := s); omega
  all_goals refine nx_seq ?_
  all_goals refine nx_region ?_
  all_goals (refine nx_op ?_; refine opw_alc (Alc.boxAgg rfl) rfl (fun b3 => ?_))
  all_goals (refine nx_op ?_; refine opw_yld (Yld.assign rfl) rfl ?_)
  all_goals refine nx_nil ?_
  all_goals refine kp_code_normal ?_
  all_goals refine nx_seq ?_
  all_goals refine nx_region ?_
  all_goals (refine nx_op ?_; refine opw_yld (Yld.fieldAddr rfl) rfl ?_)
  all_goals (refine nx_op ?_; refine opw_yld (Yld.load rfl) rfl ?_)
  all_goals (refine nx_op ?_; (refine opw_call rfl (sp89 _ _ _) inferInstance rfl ?_; rintro _ _ ⟨rfl, rfl⟩; rw [e1]; simp only [List.nil_append]))
  all_goals (refine nx_op ?_; refine opw_yld (Yld.move rfl) rfl ?_)
  all_goals (refine nx_op ?_; refine opw_yld (Yld.extract rfl rfl) rfl ?_)
  all_goals (refine nx_op ?_; refine opw_yld (Yld.extract rfl rfl) rfl ?_)
  all_goals (refine nx_op ?_; refine opw_yld (Yld.assign rfl) rfl ?_)
  all_goals (refine nx_op ?_; refine opw_yld (Yld.assign rfl) rfl ?_)
  all_goals refine nx_nil ?_
  all_goals refine kp_code_normal ?_
  all_goals refine nx_seq ?_
  all_goals refine nx_seq ?_
  all_goals refine nx_region ?_
  all_goals (refine nx_op ?_; refine opw_yld (Yld.move rfl) rfl ?_)
  all_goals (refine nx_op ?_; refine opw_yld (Yld.not rfl) rfl ?_)
  all_goals (refine nx_op ?_; refine opw_yld (Yld.move rfl) rfl ?_)
  all_goals (first | refine nx_guard_n rfl (by first | rfl | assumption) rfl ?_ | refine nx_guard_u rfl rfl ?_ | ((first | refine nx_guard_y rfl (by first | rfl | assumption) ?_ | refine nx_guard rfl rfl (fun hc => ?_) (fun hc => ?_)); all_goals (first | (refine opw_yld (Yld.fieldAddr rfl) rfl ?_) | skip)))
  all_goals (first | refine nx_guard_n rfl (by first | rfl | assumption) rfl ?_ | refine nx_guard_u rfl rfl ?_ | ((first | refine nx_guard_y rfl (by first | rfl | assumption) ?_ | refine nx_guard rfl rfl (fun hc => ?_) (fun hc => ?_)); all_goals (first | (refine opw_yld (Yld.load rfl) rfl ?_) | skip)))
  all_goals (first | refine nx_guard_n rfl (by first | rfl | assumption) rfl ?_ | refine nx_guard_u rfl rfl ?_ | ((first | refine nx_guard_y rfl (by first | rfl | assumption) ?_ | refine nx_guard rfl rfl (fun hc => ?_) (fun hc => ?_)); all_goals (first | (refine opw_yld (Yld.lenString rfl) rfl ?_) | skip)))
  all_goals (first | refine nx_guard_n rfl (by first | rfl | assumption) rfl ?_ | refine nx_guard_u rfl rfl ?_ | ((first | refine nx_guard_y rfl (by first | rfl | assumption) ?_ | refine nx_guard rfl rfl (fun hc => ?_) (fun hc => ?_)); all_goals (first | (refine opw_yld (Yld.cmp rfl rfl rfl) rfl ?_) | skip)))
  all_goals (refine nx_op ?_; (first | refine opw_yld (Yld.pick_t rfl (by first | rfl | assumption) rfl) rfl ?_ | refine opw_yld (Yld.pick_f rfl (by first | rfl | assumption) rfl) rfl ?_))
  all_goals refine nx_nil ?_
  all_goals refine kp_code_normal ?_
  all_goals (refine nx_cond rfl (fun hc => ?_) (fun hc => ?_))
  all_goals (first | (exact Bool.noConfusion (hc.symm.trans (by first | rfl | assumption) : true = false)) | (exact Bool.noConfusion (hc.symm.trans (by first | rfl | assumption) : false = true)) | (all_goals refine nx_seq ?_; all_goals refine nx_region ?_; all_goals (refine nx_op ?_; refine opw_yld (Yld.assign rfl) rfl ?_); all_goals refine nx_nil ?_; all_goals refine kp_code_normal ?_; all_goals refine nx_ret ?_; all_goals refine kp_code_ret ?_) | (all_goals refine nx_skip ?_))
  all_goals refine kp_code_normal ?_
  all_goals refine nx_seq ?_
  all_goals refine nx_region ?_
  all_goals (refine nx_op ?_; refine opw_yld (Yld.move rfl) rfl ?_)
  all_goals (refine nx_op ?_; (refine opw_call rfl (sp90 _ _ _ hsz) inferInstance rfl ?_; rintro _ _ ⟨bp, ps, rfl, rfl, hps⟩; simp only [List.cons_append, List.nil_append]; rw [hbs] at hps))
  all_goals (refine nx_op ?_; refine opw_yld (Yld.assign rfl) rfl ?_)
  all_goals refine nx_nil ?_
  all_goals refine kp_code_normal ?_
  all_goals refine nx_seq ?_
  all_goals refine nx_region ?_
  all_goals (refine nx_op ?_; refine opw_yld (Yld.assign rfl) rfl ?_)
  all_goals refine nx_nil ?_
  all_goals refine kp_code_normal ?_
  all_goals refine nx_seq ?_
  all_goals refine nx_seq ?_
  all_goals refine nx_region ?_
  all_goals (refine nx_op ?_; refine opw_yld (Yld.move rfl) rfl ?_)
  all_goals (refine nx_op ?_; refine opw_yld (Yld.lenSlice rfl) rfl ?_)
  all_goals (refine nx_op ?_; refine opw_yld (Yld.move rfl) rfl ?_)
  all_goals refine nx_nil ?_
  all_goals refine kp_code_normal ?_
  all_goals refine nx_block ?_
  have hpl : ps.length ≤ 4097 := by
    have h3 := hlist ((bs path).drop 1)
    rw [← hps] at h3
    simp at h3
    have := bs_len path
    omega
  have hp0 : 0 < ps.length := by
    have h3 : ps.length = (ps.map bs).length := by simp
    rw [h3, hps, splitB_len]; omega
  refine nx_loop (fun fr L m => ∃ (i : Nat) (dir : Int), i < ps.length ∧ m = ps.length - i ∧ itemGo (abs T.S) dir ((ps.map bs).drop i) = G ∧
      fr = [(0, .pointer (some ⟨T.t, 0, none⟩)), (3, .pointer (some ⟨b3, 0, none⟩)), (7, .slice (some ⟨bp, 0, none⟩) ps.length ps.length), (8, .int .i64 dir), (30, .slice (some ⟨bp, 0, none⟩) ps.length ps.length), (31, .int .i64 ps.length), (32, .int .i64 i)] ∧
      L = [[(bp, .cells (ps.map Value.string).toArray 9 (0, 0))], [(b3, .cells [.string path, .int .i64 kind, .int .i64 mode, .slice a data.length cap].toArray 26 (0, 0))], T.chunk, F])
    (L' := [[(bp, .cells (ps.map Value.string).toArray 9 (0, 0))], [(b3, .cells [.string path, .int .i64 kind, .int .i64 mode, .slice a data.length cap].toArray 26 (0, 0))], T.chunk, F]) ⟨0, 1, hp0, rfl, by simpa [hps] using hG, rfl, rfl⟩ (by repeat' (first | exact .nil | refine .cons rfl ?_)) inferInstance ?_
  rintro fr L m ⟨i, dir, hi, rfl, hgo, rfl, rfl⟩
  have hdr : (ps.map bs).drop i = bs ps[i] :: (ps.map bs).drop (i + 1) := by rw [List.drop_eq_getElem_cons (by simpa using hi)]; simp
  have hn1 : NthL (ps.map Value.string) i (.string ps[i]) := ⟨by simp [List.getElem?_eq_getElem hi]⟩
  have hlt : decide ((i : Int) < (ps.length : Int)) = true := by simp; omega
  rw [hdr] at hgo
  cases hgn : goodName (bs ps[i]) with
  | false =>
    have hG2 : G = none := by rw [← hgo]; cases (ps.map bs).drop (i + 1) <;> simp [itemGo, hgn]
    subst hG2
    all_goals refine nx_seq ?_
    all_goals refine nx_region ?_
    all_goals (refine nx_op ?_; refine opw_yld (Yld.cmp rfl rfl rfl) rfl ?_)
    all_goals refine nx_nil ?_
    all_goals refine kp_code_normal ?_
    all_goals refine nx_seq ?_
    all_goals (refine nx_cond rfl (fun hc => ?_) (fun hc => ?_))
    all_goals (first | (exact Bool.noConfusion (hc.symm.trans (by first | rfl | assumption) : true = false)) | (exact Bool.noConfusion (hc.symm.trans (by first | rfl | assumption) : false = true)) | (all_goals refine nx_skip ?_) | (all_goals refine nx_exit ?_; all_goals refine kp_code_exit ?_; all_goals refine kp_loop_exit ?_; all_goals refine kp_blk_exit rfl ?_; all_goals refine kp_code_normal ?_; all_goals refine nx_seq ?_; all_goals refine nx_draw (fun i => match i with | 7 => .read | 9 => .read | 11 => .read | 13 => .read | 14 => .hard | _ => .stab) [] [0, 1, 2, 3, 4, 5, 6, 7, 8, 9, 10, 11, 12, 13, 14, 15, 16, 17, 18, 19] rfl (by kernel_rfl) inferInstance ?_; all_goals (refine wk_stab rfl rfl (Yld.move rfl) rfl ?_); all_goals (refine wk_stab rfl rfl (Yld.move rfl) rfl ?_); all_goals (refine wk_stab rfl rfl (Yld.move rfl) rfl ?_); all_goals (refine wk_stab rfl rfl (Yld.move rfl) rfl ?_); all_goals (refine wk_stab rfl rfl (Yld.lenSlice rfl) rfl ?_); all_goals ((first | refine wk_stab rfl rfl (Yld.subI rfl rfl (by omega) (by omega)) rfl ?_ | refine wk_stab rfl rfl (Yld.sub rfl rfl) rfl ?_)); all_goals (refine wk_stab rfl rfl (Yld.indexAddr rfl rfl (by omega)) rfl ?_); all_goals (refine wk_read rfl rfl (Yld.load rfl) rfl ?_); all_goals (refine wk_stab rfl rfl (Yld.fieldAddr rfl) rfl ?_); all_goals (refine wk_read rfl rfl (Yld.load rfl) rfl ?_); all_goals (refine wk_stab rfl rfl (Yld.fieldAddr rfl) rfl ?_); all_goals (refine wk_read rfl rfl (Yld.load rfl) rfl ?_); all_goals (refine wk_stab rfl rfl (Yld.fieldAddr rfl) rfl ?_); all_goals (refine wk_read rfl rfl (Yld.load rfl) rfl ?_); all_goals ((refine wk_hard rfl rfl ?_; (fail); refine nx_keeps inferInstance ?_)); all_goals (refine wk_stab rfl rfl (Yld.move rfl) rfl ?_); all_goals (refine wk_stab rfl rfl (Yld.extract rfl rfl) rfl ?_); all_goals (refine wk_stab rfl rfl (Yld.extract rfl rfl) rfl ?_); all_goals (refine wk_stab rfl rfl (Yld.assign rfl) rfl ?_); all_goals (refine wk_stab rfl rfl (Yld.assign rfl) rfl ?_); all_goals refine wk_nil ?_; all_goals refine kp_code_normal ?_; all_goals refine nx_seq ?_; all_goals refine nx_seq ?_; all_goals refine nx_region ?_; all_goals (refine nx_op ?_; refine opw_yld (Yld.move rfl) rfl ?_); all_goals (refine nx_op ?_; refine opw_yld (Yld.cmp rfl rfl rfl) rfl ?_); all_goals (refine nx_op ?_; refine opw_yld (Yld.move rfl) rfl ?_); all_goals (first | refine nx_guard_n rfl (by first | rfl | assumption) rfl ?_ | refine nx_guard_u rfl rfl ?_ | ((first | refine nx_guard_y rfl (by first | rfl | assumption) ?_ | refine nx_guard rfl rfl (fun hc => ?_) (fun hc => ?_)); all_goals (first | (refine opw_yld (Yld.move rfl) rfl ?_) | skip))); all_goals (first | refine nx_guard_n rfl (by first | rfl | assumption) rfl ?_ | refine nx_guard_u rfl rfl ?_ | ((first | refine nx_guard_y rfl (by first | rfl | assumption) ?_ | refine nx_guard rfl rfl (fun hc => ?_) (fun hc => ?_)); all_goals (first | (refine opw_yld (Yld.cmp rfl rfl rfl) rfl ?_) | skip))); all_goals (refine nx_op ?_; (first | refine opw_yld (Yld.pick_t rfl (by first | rfl | assumption) rfl) rfl ?_ | refine opw_yld (Yld.pick_f rfl (by first | rfl | assumption) rfl) rfl ?_)); all_goals refine nx_nil ?_; all_goals refine kp_code_normal ?_; all_goals (refine nx_cond rfl (fun hc => ?_) (fun hc => ?_)); all_goals (first | (exact Bool.noConfusion (hc.symm.trans (by first | rfl | assumption) : true = false)) | (exact Bool.noConfusion (hc.symm.trans (by first | rfl | assumption) : false = true)) | (all_goals refine nx_seq ?_; all_goals refine nx_region ?_; all_goals (refine nx_op ?_; refine opw_yld (Yld.assign rfl) rfl ?_); all_goals refine nx_nil ?_; all_goals refine kp_code_normal ?_; all_goals refine nx_ret ?_; all_goals refine kp_code_ret ?_; all_goals (exact res1 (by first | exact .inl rfl | exact .inr rfl) Tryd.results40 rfl [T.chunk] inferInstance ⟨rfl, Nxt.self hT⟩)) | (all_goals refine nx_skip ?_)); all_goals refine kp_code_normal ?_; all_goals refine nx_seq ?_; all_goals refine nx_region ?_; all_goals (refine nx_op ?_; refine opw_yld (Yld.move rfl) rfl ?_); all_goals (refine nx_op ?_; refine opw_yld (Yld.assign rfl) rfl ?_); all_goals refine nx_nil ?_; all_goals refine kp_code_normal ?_; all_goals refine nx_ret ?_; all_goals (exact res1 (by first | exact .inl rfl | exact .inr rfl) Tryd.results40 rfl [T.chunk] inferInstance ⟨rfl, Nxt.self hT⟩)))
    all_goals refine kp_code_normal ?_
    all_goals refine nx_seq ?_
    all_goals refine nx_block ?_
    all_goals refine nx_seq ?_
    all_goals refine nx_region ?_
    all_goals (refine nx_op ?_; refine opw_yld (Yld.move rfl) rfl ?_)
    all_goals (refine nx_op ?_; refine opw_yld (Yld.indexAddr rfl rfl (by omega)) rfl ?_)
    all_goals (refine nx_op ?_; refine opw_yld (Yld.load rfl) rfl ?_)
    all_goals (refine nx_op ?_; refine opw_yld (Yld.assign rfl) rfl ?_)
    all_goals (refine nx_op ?_; refine opw_yld (Yld.assign rfl) rfl ?_)
    all_goals refine nx_nil ?_
    all_goals refine kp_code_normal ?_
    all_goals refine nx_seq ?_
    all_goals refine nx_seq ?_
    all_goals refine nx_region ?_
    all_goals (refine nx_op ?_; refine opw_yld (Yld.move rfl) rfl ?_)
    all_goals (refine nx_op ?_; (refine opw_call rfl (sp21 _ _) inferInstance rfl ?_; rintro _ _ ⟨rfl, rfl⟩; simp only [List.nil_append, hgn]))
    all_goals (refine nx_op ?_; refine opw_yld (Yld.not rfl) rfl ?_)
    all_goals refine nx_nil ?_
    all_goals refine kp_code_normal ?_
    all_goals (refine nx_cond rfl (fun hc => ?_) (fun hc => ?_))
    all_goals (first | (exact Bool.noConfusion (hc.symm.trans (by first | rfl | assumption) : true = false)) | (exact Bool.noConfusion (hc.symm.trans (by first | rfl | assumption) : false = true)) | (all_goals refine nx_seq ?_; all_goals refine nx_region ?_; all_goals (refine nx_op ?_; refine opw_yld (Yld.assign rfl) rfl ?_); all_goals refine nx_nil ?_; all_goals refine kp_code_normal ?_; all_goals refine nx_ret ?_; all_goals refine kp_code_ret ?_; all_goals refine kp_blk_ret ?_; all_goals refine kp_code_ret ?_; all_goals refine kp_loop_ret ?_; all_goals refine kp_blk_ret ?_; all_goals refine kp_code_ret ?_; all_goals (exact res1 (by first | exact .inl rfl | exact .inr rfl) Tryd.results40 rfl [T.chunk] inferInstance ⟨rfl, Nxt.self hT⟩)) | (all_goals refine nx_skip ?_))
    all_goals refine kp_code_normal ?_
    all_goals refine nx_seq ?_
    all_goals refine nx_seq ?_
    all_goals refine nx_region ?_
    all_goals (refine nx_op ?_; refine opw_yld (Yld.move rfl) rfl ?_)
    all_goals (refine nx_op ?_; refine opw_yld (Yld.move rfl) rfl ?_)
    all_goals (refine nx_op ?_; refine opw_yld (Yld.lenSlice rfl) rfl ?_)
    all_goals (refine nx_op ?_; (first | refine opw_yld (Yld.subI rfl rfl (by omega) (by omega)) rfl ?_ | refine opw_yld (Yld.sub rfl rfl) rfl ?_))
    all_goals (refine nx_op ?_; refine opw_yld (Yld.cmp rfl rfl rfl) rfl ?_)
    all_goals refine nx_nil ?_
    all_goals refine kp_code_normal ?_
    all_goals (refine nx_cond rfl (fun hc => ?_) (fun hc => ?_))
    all_goals (first | (exact Bool.noConfusion (hc.symm.trans (by first | rfl | assumption) : true = false)) | (exact Bool.noConfusion (hc.symm.trans (by first | rfl | assumption) : false = true)) | (all_goals refine nx_exit ?_; all_goals refine kp_code_exit ?_; all_goals refine kp_blk_other rfl ?_; all_goals refine kp_code_exit ?_; all_goals refine kp_loop_exit ?_; all_goals refine kp_blk_exit rfl ?_; all_goals refine kp_code_normal ?_; all_goals refine nx_seq ?_; all_goals refine nx_draw (fun i => match i with | 7 => .read | 9 => .read | 11 => .read | 13 => .read | 14 => .hard | _ => .stab) [] [0, 1, 2, 3, 4, 5, 6, 7, 8, 9, 10, 11, 12, 13, 14, 15, 16, 17, 18, 19] rfl (by kernel_rfl) inferInstance ?_; all_goals (refine wk_stab rfl rfl (Yld.move rfl) rfl ?_); all_goals (refine wk_stab rfl rfl (Yld.move rfl) rfl ?_); all_goals (refine wk_stab rfl rfl (Yld.move rfl) rfl ?_); all_goals (refine wk_stab rfl rfl (Yld.move rfl) rfl ?_); all_goals (refine wk_stab rfl rfl (Yld.lenSlice rfl) rfl ?_); all_goals ((first | refine wk_stab rfl rfl (Yld.subI rfl rfl (by omega) (by omega)) rfl ?_ | refine wk_stab rfl rfl (Yld.sub rfl rfl) rfl ?_)); all_goals (refine wk_stab rfl rfl (Yld.indexAddr rfl rfl (by omega)) rfl ?_); all_goals (refine wk_read rfl rfl (Yld.load rfl) rfl ?_); all_goals (refine wk_stab rfl rfl (Yld.fieldAddr rfl) rfl ?_); all_goals (refine wk_read rfl rfl (Yld.load rfl) rfl ?_); all_goals (refine wk_stab rfl rfl (Yld.fieldAddr rfl) rfl ?_); all_goals (refine wk_read rfl rfl (Yld.load rfl) rfl ?_); all_goals (refine wk_stab rfl rfl (Yld.fieldAddr rfl) rfl ?_); all_goals (refine wk_read rfl rfl (Yld.load rfl) rfl ?_); all_goals ((refine wk_hard rfl rfl ?_; (fail); refine nx_keeps inferInstance ?_)); all_goals (refine wk_stab rfl rfl (Yld.move rfl) rfl ?_); all_goals (refine wk_stab rfl rfl (Yld.extract rfl rfl) rfl ?_); all_goals (refine wk_stab rfl rfl (Yld.extract rfl rfl) rfl ?_); all_goals (refine wk_stab rfl rfl (Yld.assign rfl) rfl ?_); all_goals (refine wk_stab rfl rfl (Yld.assign rfl) rfl ?_); all_goals refine wk_nil ?_; all_goals refine kp_code_normal ?_; all_goals refine nx_seq ?_; all_goals refine nx_seq ?_; all_goals refine nx_region ?_; all_goals (refine nx_op ?_; refine opw_yld (Yld.move rfl) rfl ?_); all_goals (refine nx_op ?_; refine opw_yld (Yld.cmp rfl rfl rfl) rfl ?_); all_goals (refine nx_op ?_; refine opw_yld (Yld.move rfl) rfl ?_); all_goals (first | refine nx_guard_n rfl (by first | rfl | assumption) rfl ?_ | refine nx_guard_u rfl rfl ?_ | ((first | refine nx_guard_y rfl (by first | rfl | assumption) ?_ | refine nx_guard rfl rfl (fun hc => ?_) (fun hc => ?_)); all_goals (first | (refine opw_yld (Yld.move rfl) rfl ?_) | skip))); all_goals (first | refine nx_guard_n rfl (by first | rfl | assumption) rfl ?_ | refine nx_guard_u rfl rfl ?_ | ((first | refine nx_guard_y rfl (by first | rfl | assumption) ?_ | refine nx_guard rfl rfl (fun hc => ?_) (fun hc => ?_)); all_goals (first | (refine opw_yld (Yld.cmp rfl rfl rfl) rfl ?_) | skip))); all_goals (refine nx_op ?_; (first | refine opw_yld (Yld.pick_t rfl (by first | rfl | assumption) rfl) rfl ?_ | refine opw_yld (Yld.pick_f rfl (by first | rfl | assumption) rfl) rfl ?_)); all_goals refine nx_nil ?_; all_goals refine kp_code_normal ?_; all_goals (refine nx_cond rfl (fun hc => ?_) (fun hc => ?_)); all_goals (first | (exact Bool.noConfusion (hc.symm.trans (by first | rfl | assumption) : true = false)) | (exact Bool.noConfusion (hc.symm.trans (by first | rfl | assumption) : false = true)) | (all_goals refine nx_seq ?_; all_goals refine nx_region ?_; all_goals (refine nx_op ?_; refine opw_yld (Yld.assign rfl) rfl ?_); all_goals refine nx_nil ?_; all_goals refine kp_code_normal ?_; all_goals refine nx_ret ?_; all_goals refine kp_code_ret ?_; all_goals (exact res1 (by first | exact .inl rfl | exact .inr rfl) Tryd.results40 rfl [T.chunk] inferInstance ⟨rfl, Nxt.self hT⟩)) | (all_goals refine nx_skip ?_)); all_goals refine kp_code_normal ?_; all_goals refine nx_seq ?_; all_goals refine nx_region ?_; all_goals (refine nx_op ?_; refine opw_yld (Yld.move rfl) rfl ?_); all_goals (refine nx_op ?_; refine opw_yld (Yld.assign rfl) rfl ?_); all_goals refine nx_nil ?_; all_goals refine kp_code_normal ?_; all_goals refine nx_ret ?_; all_goals (exact res1 (by first | exact .inl rfl | exact .inr rfl) Tryd.results40 rfl [T.chunk] inferInstance ⟨rfl, Nxt.self hT⟩)) | (all_goals refine nx_skip ?_))
    all_goals refine kp_code_normal ?_
    all_goals refine nx_seq ?_
    all_goals refine nx_region ?_
    all_goals (refine nx_op ?_; refine opw_yld (Yld.assign rfl) rfl ?_)
    all_goals refine nx_nil ?_
    all_goals refine kp_code_normal ?_
    all_goals refine nx_seq ?_
    all_goals refine nx_region ?_
    all_goals (refine nx_op ?_; refine opw_yld (Yld.move rfl) rfl ?_)
    all_goals (refine nx_op ?_; refine opw_yld (Yld.move rfl) rfl ?_)
    all_goals (refine nx_op ?_; refine opw_yld (Yld.move rfl) rfl ?_)
    all_goals (refine nx_op ?_; (fail))
    all_goals (refine nx_op ?_; refine opw_yld (Yld.move rfl) rfl ?_)
    all_goals (refine nx_op ?_; refine opw_yld (Yld.extract rfl rfl) rfl ?_)
    all_goals (refine nx_op ?_; refine opw_yld (Yld.extract rfl rfl) rfl ?_)
    all_goals (refine nx_op ?_; refine opw_yld (Yld.assign rfl) rfl ?_)
    all_goals (refine nx_op ?_; refine opw_yld (Yld.assign rfl) rfl ?_)
    all_goals refine nx_nil ?_
    all_goals refine kp_code_normal ?_
    all_goals refine nx_seq ?_
    all_goals refine nx_region ?_
    all_goals (refine nx_op ?_; refine opw_yld (Yld.move rfl) rfl ?_)
    all_goals (refine nx_op ?_; refine opw_yld (Yld.cmp rfl rfl rfl) rfl ?_)
    all_goals refine nx_nil ?_
    all_goals refine kp_code_normal ?_
    all_goals (refine nx_cond rfl (fun hc => ?_) (fun hc => ?_))
    all_goals (first | (exact Bool.noConfusion (hc.symm.trans (by first | rfl | assumption) : true = false)) | (exact Bool.noConfusion (hc.symm.trans (by first | rfl | assumption) : false = true)) | (all_goals refine nx_seq ?_; all_goals refine nx_region ?_; all_goals (refine nx_op ?_; refine opw_yld (Yld.assign rfl) rfl ?_); all_goals refine nx_nil ?_; all_goals refine kp_code_normal ?_; all_goals refine nx_ret ?_; all_goals refine kp_blk_ret ?_; all_goals refine kp_code_ret ?_; all_goals refine kp_loop_ret ?_; all_goals refine kp_blk_ret ?_; all_goals refine kp_code_ret ?_; all_goals (exact res1 (by first | exact .inl rfl | exact .inr rfl) Tryd.results40 rfl [T.chunk] inferInstance ⟨rfl, Nxt.self hT⟩)) | (all_goals refine nx_skip ?_))
    all_goals refine kp_blk_normal ?_
    all_goals refine kp_code_normal ?_
    all_goals refine nx_region ?_
    all_goals (refine nx_op ?_; (first | refine opw_yld (Yld.addI rfl rfl (by omega) (by omega)) rfl ?_ | refine opw_yld (Yld.add rfl rfl) rfl ?_))
    all_goals (refine nx_op ?_; refine opw_yld (Yld.move rfl) rfl ?_)
    all_goals refine nx_nil ?_
  | true =>
  by_cases hlast : i + 1 = ps.length
  · have hb2 : ((i : Int) == (ps.length : Int) - 1) = true := by simp; omega
    have hG2 : G = some (dir, bs ps[i]) := by
      rw [← hgo, show (ps.map bs).drop (i + 1) = [] from List.drop_eq_nil_of_le (by simp; omega)]
      simp [itemGo, hgn]
    subst hG2
    have hi1 : i = ps.length - 1 := by omega
    have hn2 : NthL (ps.map Value.string) (ps.length - 1) (.string ps[i]) := ⟨by rw [← hi1]; exact hn1.eq⟩
    simp only [ofBs_bs]
    have hto : ToN ((ps.length : Int) - 1) (ps.length - 1) := ⟨by omega⟩
    all_goals refine nx_seq ?_
    all_goals refine nx_region ?_
    all_goals (refine nx_op ?_; refine opw_yld (Yld.cmp rfl rfl rfl) rfl ?_)
    all_goals refine nx_nil ?_
    all_goals refine kp_code_normal ?_
    all_goals refine nx_seq ?_
    all_goals (refine nx_cond rfl (fun hc => ?_) (fun hc => ?_))
    all_goals (first | (exact Bool.noConfusion (hc.symm.trans (by first | rfl | assumption) : true = false)) | (exact Bool.noConfusion (hc.symm.trans (by first | rfl | assumption) : false = true)) | (all_goals refine nx_skip ?_) | (all_goals refine nx_exit ?_; all_goals refine kp_code_exit ?_; all_goals refine kp_loop_exit ?_; all_goals refine kp_blk_exit rfl ?_; all_goals refine kp_code_normal ?_; all_goals refine nx_seq ?_; all_goals refine nx_draw (fun i => match i with | 7 => .read | 9 => .read | 11 => .read | 13 => .read | 14 => .hard | _ => .stab) [] [0, 1, 2, 3, 4, 5, 6, 7, 8, 9, 10, 11, 12, 13, 14, 15, 16, 17, 18, 19] rfl (by kernel_rfl) inferInstance ?_; all_goals (refine wk_stab rfl rfl (Yld.move rfl) rfl ?_); all_goals (refine wk_stab rfl rfl (Yld.move rfl) rfl ?_); all_goals (refine wk_stab rfl rfl (Yld.move rfl) rfl ?_); all_goals (refine wk_stab rfl rfl (Yld.move rfl) rfl ?_); all_goals (refine wk_stab rfl rfl (Yld.lenSlice rfl) rfl ?_); all_goals (refine wk_stab rfl rfl (Yld.subI rfl rfl (by omega) (by omega)) rfl ?_); all_goals (refine wk_stab rfl rfl (Yld.indexAddr rfl rfl (by omega)) rfl ?_); all_goals (refine wk_read rfl rfl (Yld.load rfl) rfl ?_); all_goals (refine wk_stab rfl rfl (Yld.fieldAddr rfl) rfl ?_); all_goals (refine wk_read rfl rfl (Yld.load rfl) rfl ?_); all_goals (refine wk_stab rfl rfl (Yld.fieldAddr rfl) rfl ?_); all_goals (refine wk_read rfl rfl (Yld.load rfl) rfl ?_); all_goals (refine wk_stab rfl rfl (Yld.fieldAddr rfl) rfl ?_); all_goals (refine wk_read rfl rfl (Yld.load rfl) rfl ?_); all_goals ((refine wk_hard rfl rfl ?_; (refine opw_call rfl (sp43 hT hN dir ps[i] kind mode (hv.mono (by simp +contextual))) inferInstance rfl ?_; rintro _ _ ⟨rfl, T', hT', ht', hN', ha', rfl⟩; simp only [List.cons_append, List.nil_append, tup2]); refine nx_keeps inferInstance ?_)); all_goals (refine wk_stab rfl rfl (Yld.move rfl) rfl ?_); all_goals (refine wk_stab rfl rfl (Yld.extract rfl rfl) rfl ?_); all_goals (refine wk_stab rfl rfl (Yld.extract rfl rfl) rfl ?_); all_goals (refine wk_stab rfl rfl (Yld.assign rfl) rfl ?_); all_goals (refine wk_stab rfl rfl (Yld.assign rfl) rfl ?_); all_goals refine wk_nil ?_; all_goals refine kp_code_normal ?_; all_goals refine nx_seq ?_; all_goals refine nx_seq ?_; all_goals refine nx_region ?_; all_goals (refine nx_op ?_; refine opw_yld (Yld.move rfl) rfl ?_); all_goals (refine nx_op ?_; refine opw_yld (Yld.cmp rfl rfl rfl) rfl ?_); all_goals (refine nx_op ?_; refine opw_yld (Yld.move rfl) rfl ?_); all_goals (first | refine nx_guard_n rfl (by first | rfl | assumption) rfl ?_ | refine nx_guard_u rfl rfl ?_ | ((first | refine nx_guard_y rfl (by first | rfl | assumption) ?_ | refine nx_guard rfl rfl (fun hc => ?_) (fun hc => ?_)); all_goals (first | (refine opw_yld (Yld.move rfl) rfl ?_) | skip))); all_goals (first | refine nx_guard_n rfl (by first | rfl | assumption) rfl ?_ | refine nx_guard_u rfl rfl ?_ | ((first | refine nx_guard_y rfl (by first | rfl | assumption) ?_ | refine nx_guard rfl rfl (fun hc => ?_) (fun hc => ?_)); all_goals (first | (refine opw_yld (Yld.cmp rfl rfl rfl) rfl ?_) | skip))); all_goals (refine nx_op ?_; (first | refine opw_yld (Yld.pick_t rfl (by first | rfl | assumption) rfl) rfl ?_ | refine opw_yld (Yld.pick_f rfl (by first | rfl | assumption) rfl) rfl ?_)); all_goals refine nx_nil ?_; all_goals refine kp_code_normal ?_; all_goals (refine nx_cond rfl (fun hc => ?_) (fun hc => ?_)); all_goals (first | (exact Bool.noConfusion (hc.symm.trans (by first | rfl | assumption) : true = false)) | (exact Bool.noConfusion (hc.symm.trans (by first | rfl | assumption) : false = true)) | (all_goals refine nx_seq ?_; all_goals refine nx_region ?_; all_goals (refine nx_op ?_; refine opw_yld (Yld.assign rfl) rfl ?_); all_goals refine nx_nil ?_; all_goals refine kp_code_normal ?_; all_goals refine nx_ret ?_; all_goals refine kp_code_ret ?_; all_goals (exact res1 (by first | exact .inl rfl | exact .inr rfl) Tryd.results40 rfl [T'.chunk] inferInstance ⟨by simp_all, T', hT', ht', hN', ha', rfl⟩)) | (all_goals refine nx_skip ?_)); all_goals refine kp_code_normal ?_; all_goals refine nx_seq ?_; all_goals refine nx_region ?_; all_goals (refine nx_op ?_; refine opw_yld (Yld.move rfl) rfl ?_); all_goals (refine nx_op ?_; refine opw_yld (Yld.assign rfl) rfl ?_); all_goals refine nx_nil ?_; all_goals refine kp_code_normal ?_; all_goals refine nx_ret ?_; all_goals (exact res1 (by first | exact .inl rfl | exact .inr rfl) Tryd.results40 rfl [T'.chunk] inferInstance ⟨by simp_all, T', hT', ht', hN', ha', rfl⟩)))
    all_goals refine kp_code_normal ?_
    all_goals refine nx_seq ?_
    all_goals refine nx_block ?_
    all_goals refine nx_seq ?_
    all_goals refine nx_region ?_
    all_goals (refine nx_op ?_; refine opw_yld (Yld.move rfl) rfl ?_)
    all_goals (refine nx_op ?_; refine opw_yld (Yld.indexAddr rfl rfl (by omega)) rfl ?_)
    all_goals (refine nx_op ?_; refine opw_yld (Yld.load rfl) rfl ?_)
    all_goals (refine nx_op ?_; refine opw_yld (Yld.assign rfl) rfl ?_)
    all_goals (refine nx_op ?_; refine opw_yld (Yld.assign rfl) rfl ?_)
    all_goals refine nx_nil ?_
    all_goals refine kp_code_normal ?_
    all_goals refine nx_seq ?_
    all_goals refine nx_seq ?_
    all_goals refine nx_region ?_
    all_goals (refine nx_op ?_; refine opw_yld (Yld.move rfl) rfl ?_)
    all_goals (refine nx_op ?_; (refine opw_call rfl (sp21 _ _) inferInstance rfl ?_; rintro _ _ ⟨rfl, rfl⟩; simp only [List.nil_append, hgn]))
    all_goals (refine nx_op ?_; refine opw_yld (Yld.not rfl) rfl ?_)
    all_goals refine nx_nil ?_
    all_goals refine kp_code_normal ?_
    all_goals (refine nx_cond rfl (fun hc => ?_) (fun hc => ?_))
    all_goals (first | (exact Bool.noConfusion (hc.symm.trans (by first | rfl | assumption) : true = false)) | (exact Bool.noConfusion (hc.symm.trans (by first | rfl | assumption) : false = true)) | (all_goals refine nx_seq ?_; all_goals refine nx_region ?_; all_goals (refine nx_op ?_; refine opw_yld (Yld.assign rfl) rfl ?_); all_goals refine nx_nil ?_; all_goals refine kp_code_normal ?_; all_goals refine nx_ret ?_; all_goals refine kp_code_ret ?_; all_goals refine kp_blk_ret ?_; all_goals refine kp_code_ret ?_; all_goals refine kp_loop_ret ?_; all_goals refine kp_blk_ret ?_; all_goals refine kp_code_ret ?_; all_goals (exact res1 (by first | exact .inl rfl | exact .inr rfl) Tryd.results40 rfl [T'.chunk] inferInstance ⟨by simp_all, T', hT', ht', hN', ha', rfl⟩)) | (all_goals refine nx_skip ?_))
    all_goals refine kp_code_normal ?_
    all_goals refine nx_seq ?_
    all_goals refine nx_seq ?_
    all_goals refine nx_region ?_
    all_goals (refine nx_op ?_; refine opw_yld (Yld.move rfl) rfl ?_)
    all_goals (refine nx_op ?_; refine opw_yld (Yld.move rfl) rfl ?_)
    all_goals (refine nx_op ?_; refine opw_yld (Yld.lenSlice rfl) rfl ?_)
    all_goals (refine nx_op ?_; refine opw_yld (Yld.subI rfl rfl (by omega) (by omega)) rfl ?_)
    all_goals (refine nx_op ?_; refine opw_yld (Yld.cmp rfl rfl rfl) rfl ?_)
    all_goals refine nx_nil ?_
    all_goals refine kp_code_normal ?_
    all_goals (refine nx_cond rfl (fun hc => ?_) (fun hc => ?_))
    all_goals (first | (exact Bool.noConfusion (hc.symm.trans (by first | rfl | assumption) : true = false)) | (exact Bool.noConfusion (hc.symm.trans (by first | rfl | assumption) : false = true)) | (all_goals refine nx_exit ?_; all_goals refine kp_code_exit ?_; all_goals refine kp_blk_other rfl ?_; all_goals refine kp_code_exit ?_; all_goals refine kp_loop_exit ?_; all_goals refine kp_blk_exit rfl ?_; all_goals refine kp_code_normal ?_; all_goals refine nx_seq ?_; all_goals refine nx_draw (fun i => match i with | 7 => .read | 9 => .read | 11 => .read | 13 => .read | 14 => .hard | _ => .stab) [] [0, 1, 2, 3, 4, 5, 6, 7, 8, 9, 10, 11, 12, 13, 14, 15, 16, 17, 18, 19] rfl (by kernel_rfl) inferInstance ?_; all_goals (refine wk_stab rfl rfl (Yld.move rfl) rfl ?_); all_goals (refine wk_stab rfl rfl (Yld.move rfl) rfl ?_); all_goals (refine wk_stab rfl rfl (Yld.move rfl) rfl ?_); all_goals (refine wk_stab rfl rfl (Yld.move rfl) rfl ?_); all_goals (refine wk_stab rfl rfl (Yld.lenSlice rfl) rfl ?_); all_goals (refine wk_stab rfl rfl (Yld.subI rfl rfl (by omega) (by omega)) rfl ?_); all_goals (refine wk_stab rfl rfl (Yld.indexAddr rfl rfl (by omega)) rfl ?_); all_goals (refine wk_read rfl rfl (Yld.load rfl) rfl ?_); all_goals (refine wk_stab rfl rfl (Yld.fieldAddr rfl) rfl ?_); all_goals (refine wk_read rfl rfl (Yld.load rfl) rfl ?_); all_goals (refine wk_stab rfl rfl (Yld.fieldAddr rfl) rfl ?_); all_goals (refine wk_read rfl rfl (Yld.load rfl) rfl ?_); all_goals (refine wk_stab rfl rfl (Yld.fieldAddr rfl) rfl ?_); all_goals (refine wk_read rfl rfl (Yld.load rfl) rfl ?_); all_goals ((refine wk_hard rfl rfl ?_; (refine opw_call rfl (sp43 hT hN dir ps[i] kind mode (hv.mono (by simp +contextual))) inferInstance rfl ?_; rintro _ _ ⟨rfl, T', hT', ht', hN', ha', rfl⟩; simp only [List.cons_append, List.nil_append, tup2]); refine nx_keeps inferInstance ?_)); all_goals (refine wk_stab rfl rfl (Yld.move rfl) rfl ?_); all_goals (refine wk_stab rfl rfl (Yld.extract rfl rfl) rfl ?_); all_goals (refine wk_stab rfl rfl (Yld.extract rfl rfl) rfl ?_); all_goals (refine wk_stab rfl rfl (Yld.assign rfl) rfl ?_); all_goals (refine wk_stab rfl rfl (Yld.assign rfl) rfl ?_); all_goals refine wk_nil ?_; all_goals refine kp_code_normal ?_; all_goals refine nx_seq ?_; all_goals refine nx_seq ?_; all_goals refine nx_region ?_; all_goals (refine nx_op ?_; refine opw_yld (Yld.move rfl) rfl ?_); all_goals (refine nx_op ?_; refine opw_yld (Yld.cmp rfl rfl rfl) rfl ?_); all_goals (refine nx_op ?_; refine opw_yld (Yld.move rfl) rfl ?_); all_goals (first | refine nx_guard_n rfl (by first | rfl | assumption) rfl ?_ | refine nx_guard_u rfl rfl ?_ | ((first | refine nx_guard_y rfl (by first | rfl | assumption) ?_ | refine nx_guard rfl rfl (fun hc => ?_) (fun hc => ?_)); all_goals (first | (refine opw_yld (Yld.move rfl) rfl ?_) | skip))); all_goals (first | refine nx_guard_n rfl (by first | rfl | assumption) rfl ?_ | refine nx_guard_u rfl rfl ?_ | ((first | refine nx_guard_y rfl (by first | rfl | assumption) ?_ | refine nx_guard rfl rfl (fun hc => ?_) (fun hc => ?_)); all_goals (first | (refine opw_yld (Yld.cmp rfl rfl rfl) rfl ?_) | skip))); all_goals (refine nx_op ?_; (first | refine opw_yld (Yld.pick_t rfl (by first | rfl | assumption) rfl) rfl ?_ | refine opw_yld (Yld.pick_f rfl (by first | rfl | assumption) rfl) rfl ?_)); all_goals refine nx_nil ?_; all_goals refine kp_code_normal ?_; all_goals (refine nx_cond rfl (fun hc => ?_) (fun hc => ?_)); all_goals (first | (exact Bool.noConfusion (hc.symm.trans (by first | rfl | assumption) : true = false)) | (exact Bool.noConfusion (hc.symm.trans (by first | rfl | assumption) : false = true)) | (all_goals refine nx_seq ?_; all_goals refine nx_region ?_; all_goals (refine nx_op ?_; refine opw_yld (Yld.assign rfl) rfl ?_); all_goals refine nx_nil ?_; all_goals refine kp_code_normal ?_; all_goals refine nx_ret ?_; all_goals refine kp_code_ret ?_; all_goals (exact res1 (by first | exact .inl rfl | exact .inr rfl) Tryd.results40 rfl [T'.chunk] inferInstance ⟨by simp_all, T', hT', ht', hN', ha', rfl⟩)) | (all_goals refine nx_skip ?_)); all_goals refine kp_code_normal ?_; all_goals refine nx_seq ?_; all_goals refine nx_region ?_; all_goals (refine nx_op ?_; refine opw_yld (Yld.move rfl) rfl ?_); all_goals (refine nx_op ?_; refine opw_yld (Yld.assign rfl) rfl ?_); all_goals refine nx_nil ?_; all_goals refine kp_code_normal ?_; all_goals refine nx_ret ?_; all_goals (exact res1 (by first | exact .inl rfl | exact .inr rfl) Tryd.results40 rfl [T'.chunk] inferInstance ⟨by simp_all, T', hT', ht', hN', ha', rfl⟩)) | (all_goals refine nx_skip ?_))
    all_goals refine kp_code_normal ?_
    all_goals refine nx_seq ?_
    all_goals refine nx_region ?_
    all_goals (refine nx_op ?_; refine opw_yld (Yld.assign rfl) rfl ?_)
    all_goals refine nx_nil ?_
    all_goals refine kp_code_normal ?_
    all_goals refine nx_seq ?_
    all_goals refine nx_region ?_
    all_goals (refine nx_op ?_; refine opw_yld (Yld.move rfl) rfl ?_)
    all_goals (refine nx_op ?_; refine opw_yld (Yld.move rfl) rfl ?_)
    all_goals (refine nx_op ?_; refine opw_yld (Yld.move rfl) rfl ?_)
    all_goals (refine nx_op ?_; (fail))
    all_goals (refine nx_op ?_; refine opw_yld (Yld.move rfl) rfl ?_)
    all_goals (refine nx_op ?_; refine opw_yld (Yld.extract rfl rfl) rfl ?_)
    all_goals (refine nx_op ?_; refine opw_yld (Yld.extract rfl rfl) rfl ?_)
    all_goals (refine nx_op ?_; refine opw_yld (Yld.assign rfl) rfl ?_)
    all_goals (refine nx_op ?_; refine opw_yld (Yld.assign rfl) rfl ?_)
    all_goals refine nx_nil ?_
    all_goals refine kp_code_normal ?_
    all_goals refine nx_seq ?_
    all_goals refine nx_region ?_
    all_goals (refine nx_op ?_; refine opw_yld (Yld.move rfl) rfl ?_)
    all_goals (refine nx_op ?_; refine opw_yld (Yld.cmp rfl rfl rfl) rfl ?_)
    all_goals refine nx_nil ?_
    all_goals refine kp_code_normal ?_
    all_goals (refine nx_cond rfl (fun hc => ?_) (fun hc => ?_))
    all_goals (first | (exact Bool.noConfusion (hc.symm.trans (by first | rfl | assumption) : true = false)) | (exact Bool.noConfusion (hc.symm.trans (by first | rfl | assumption) : false = true)) | (all_goals refine nx_seq ?_; all_goals refine nx_region ?_; all_goals (refine nx_op ?_; refine opw_yld (Yld.assign rfl) rfl ?_); all_goals refine nx_nil ?_; all_goals refine kp_code_normal ?_; all_goals refine nx_ret ?_; all_goals refine kp_blk_ret ?_; all_goals refine kp_code_ret ?_; all_goals refine kp_loop_ret ?_; all_goals refine kp_blk_ret ?_; all_goals refine kp_code_ret ?_; all_goals (exact res1 (by first | exact .inl rfl | exact .inr rfl) Tryd.results40 rfl [T'.chunk] inferInstance ⟨by simp_all, T', hT', ht', hN', ha', rfl⟩)) | (all_goals refine nx_skip ?_))
    all_goals refine kp_blk_normal ?_
    all_goals refine kp_code_normal ?_
    all_goals refine nx_region ?_
    all_goals (refine nx_op ?_; (first | refine opw_yld (Yld.addI rfl rfl (by omega) (by omega)) rfl ?_ | refine opw_yld (Yld.add rfl rfl) rfl ?_))
    all_goals (refine nx_op ?_; refine opw_yld (Yld.move rfl) rfl ?_)
    all_goals refine nx_nil ?_
  · have hb2 : ((i : Int) == (ps.length : Int) - 1) = false := by simp; omega
    obtain ⟨q, r, hqr⟩ : ∃ q r, (ps.map bs).drop (i + 1) = q :: r := by
      cases h : (ps.map bs).drop (i + 1) with
      | nil => simp at h; omega
      | cons q r => exact ⟨q, r, rfl⟩
    have hgo2 : (if (findA (abs T.S) dir (bs ps[i])).2 = 0 then itemGo (abs T.S) (findA (abs T.S) dir (bs ps[i])).1 ((ps.map bs).drop (i + 1)) else none) = G := by
      rw [← hgo, hqr]; simp [itemGo, hgn]
    generalize hfd : findA (abs T.S) dir (bs ps[i]) = fd at *
    obtain ⟨f1, f2⟩ := fd
    simp only at hgo2
    by_cases hf2 : f2 = 0
    · subst hf2
      rw [if_pos rfl] at hgo2
      all_goals refine nx_seq ?_
      all_goals refine nx_region ?_
      all_goals (refine nx_op ?_; refine opw_yld (Yld.cmp rfl rfl rfl) rfl ?_)
      all_goals refine nx_nil ?_
      all_goals refine kp_code_normal ?_
      all_goals refine nx_seq ?_
      all_goals (refine nx_cond rfl (fun hc => ?_) (fun hc => ?_))
      all_goals (first | (exact Bool.noConfusion (hc.symm.trans (by first | rfl | assumption) : true = false)) | (exact Bool.noConfusion (hc.symm.trans (by first | rfl | assumption) : false = true)) | (all_goals refine nx_skip ?_) | (all_goals refine nx_exit ?_; all_goals refine kp_code_exit ?_; all_goals refine kp_loop_exit ?_; all_goals refine kp_blk_exit rfl ?_; all_goals refine kp_code_normal ?_; all_goals refine nx_seq ?_; all_goals refine nx_draw (fun i => match i with | 7 => .read | 9 => .read | 11 => .read | 13 => .read | 14 => .hard | _ => .stab) [] [0, 1, 2, 3, 4, 5, 6, 7, 8, 9, 10, 11, 12, 13, 14, 15, 16, 17, 18, 19] rfl (by kernel_rfl) inferInstance ?_; all_goals (refine wk_stab rfl rfl (Yld.move rfl) rfl ?_); all_goals (refine wk_stab rfl rfl (Yld.move rfl) rfl ?_); all_goals (refine wk_stab rfl rfl (Yld.move rfl) rfl ?_); all_goals (refine wk_stab rfl rfl (Yld.move rfl) rfl ?_); all_goals (refine wk_stab rfl rfl (Yld.lenSlice rfl) rfl ?_); all_goals ((first | refine wk_stab rfl rfl (Yld.subI rfl rfl (by omega) (by omega)) rfl ?_ | refine wk_stab rfl rfl (Yld.sub rfl rfl) rfl ?_)); all_goals (refine wk_stab rfl rfl (Yld.indexAddr rfl rfl (by omega)) rfl ?_); all_goals (refine wk_read rfl rfl (Yld.load rfl) rfl ?_); all_goals (refine wk_stab rfl rfl (Yld.fieldAddr rfl) rfl ?_); all_goals (refine wk_read rfl rfl (Yld.load rfl) rfl ?_); all_goals (refine wk_stab rfl rfl (Yld.fieldAddr rfl) rfl ?_); all_goals (refine wk_read rfl rfl (Yld.load rfl) rfl ?_); all_goals (refine wk_stab rfl rfl (Yld.fieldAddr rfl) rfl ?_); all_goals (refine wk_read rfl rfl (Yld.load rfl) rfl ?_); all_goals ((refine wk_hard rfl rfl ?_; (fail); refine nx_keeps inferInstance ?_)); all_goals (refine wk_stab rfl rfl (Yld.move rfl) rfl ?_); all_goals (refine wk_stab rfl rfl (Yld.extract rfl rfl) rfl ?_); all_goals (refine wk_stab rfl rfl (Yld.extract rfl rfl) rfl ?_); all_goals (refine wk_stab rfl rfl (Yld.assign rfl) rfl ?_); all_goals (refine wk_stab rfl rfl (Yld.assign rfl) rfl ?_); all_goals refine wk_nil ?_; all_goals refine kp_code_normal ?_; all_goals refine nx_seq ?_; all_goals refine nx_seq ?_; all_goals refine nx_region ?_; all_goals (refine nx_op ?_; refine opw_yld (Yld.move rfl) rfl ?_); all_goals (refine nx_op ?_; refine opw_yld (Yld.cmp rfl rfl rfl) rfl ?_); all_goals (refine nx_op ?_; refine opw_yld (Yld.move rfl) rfl ?_); all_goals (first | refine nx_guard_n rfl (by first | rfl | assumption) rfl ?_ | refine nx_guard_u rfl rfl ?_ | ((first | refine nx_guard_y rfl (by first | rfl | assumption) ?_ | refine nx_guard rfl rfl (fun hc => ?_) (fun hc => ?_)); all_goals (first | (refine opw_yld (Yld.move rfl) rfl ?_) | skip))); all_goals (first | refine nx_guard_n rfl (by first | rfl | assumption) rfl ?_ | refine nx_guard_u rfl rfl ?_ | ((first | refine nx_guard_y rfl (by first | rfl | assumption) ?_ | refine nx_guard rfl rfl (fun hc => ?_) (fun hc => ?_)); all_goals (first | (refine opw_yld (Yld.cmp rfl rfl rfl) rfl ?_) | skip))); all_goals (refine nx_op ?_; (first | refine opw_yld (Yld.pick_t rfl (by first | rfl | assumption) rfl) rfl ?_ | refine opw_yld (Yld.pick_f rfl (by first | rfl | assumption) rfl) rfl ?_)); all_goals refine nx_nil ?_; all_goals refine kp_code_normal ?_; all_goals (refine nx_cond rfl (fun hc => ?_) (fun hc => ?_)); all_goals (first | (exact Bool.noConfusion (hc.symm.trans (by first | rfl | assumption) : true = false)) | (exact Bool.noConfusion (hc.symm.trans (by first | rfl | assumption) : false = true)) | (all_goals refine nx_seq ?_; all_goals refine nx_region ?_; all_goals (refine nx_op ?_; refine opw_yld (Yld.assign rfl) rfl ?_); all_goals refine nx_nil ?_; all_goals refine kp_code_normal ?_; all_goals refine nx_ret ?_; all_goals refine kp_code_ret ?_; all_goals (fail)) | (all_goals refine nx_skip ?_)); all_goals refine kp_code_normal ?_; all_goals refine nx_seq ?_; all_goals refine nx_region ?_; all_goals (refine nx_op ?_; refine opw_yld (Yld.move rfl) rfl ?_); all_goals (refine nx_op ?_; refine opw_yld (Yld.assign rfl) rfl ?_); all_goals refine nx_nil ?_; all_goals refine kp_code_normal ?_; all_goals refine nx_ret ?_; all_goals (fail)))
      all_goals refine kp_code_normal ?_
      all_goals refine nx_seq ?_
      all_goals refine nx_block ?_
      all_goals refine nx_seq ?_
      all_goals refine nx_region ?_
      all_goals (refine nx_op ?_; refine opw_yld (Yld.move rfl) rfl ?_)
      all_goals (refine nx_op ?_; refine opw_yld (Yld.indexAddr rfl rfl (by omega)) rfl ?_)
      all_goals (refine nx_op ?_; refine opw_yld (Yld.load rfl) rfl ?_)
      all_goals (refine nx_op ?_; refine opw_yld (Yld.assign rfl) rfl ?_)
      all_goals (refine nx_op ?_; refine opw_yld (Yld.assign rfl) rfl ?_)
      all_goals refine nx_nil ?_
      all_goals refine kp_code_normal ?_
      all_goals refine nx_seq ?_
      all_goals refine nx_seq ?_
      all_goals refine nx_region ?_
      all_goals (refine nx_op ?_; refine opw_yld (Yld.move rfl) rfl ?_)
      all_goals (refine nx_op ?_; (refine opw_call rfl (sp21 _ _) inferInstance rfl ?_; rintro _ _ ⟨rfl, rfl⟩; simp only [List.nil_append, hgn]))
      all_goals (refine nx_op ?_; refine opw_yld (Yld.not rfl) rfl ?_)
      all_goals refine nx_nil ?_
      all_goals refine kp_code_normal ?_
      all_goals (refine nx_cond rfl (fun hc => ?_) (fun hc => ?_))
      all_goals (first | (exact Bool.noConfusion (hc.symm.trans (by first | rfl | assumption) : true = false)) | (exact Bool.noConfusion (hc.symm.trans (by first | rfl | assumption) : false = true)) | (all_goals refine nx_seq ?_; all_goals refine nx_region ?_; all_goals (refine nx_op ?_; refine opw_yld (Yld.assign rfl) rfl ?_); all_goals refine nx_nil ?_; all_goals refine kp_code_normal ?_; all_goals refine nx_ret ?_; all_goals refine kp_code_ret ?_; all_goals refine kp_blk_ret ?_; all_goals refine kp_code_ret ?_; all_goals refine kp_loop_ret ?_; all_goals refine kp_blk_ret ?_; all_goals refine kp_code_ret ?_; all_goals (fail)) | (all_goals refine nx_skip ?_))
      all_goals refine kp_code_normal ?_
      all_goals refine nx_seq ?_
      all_goals refine nx_seq ?_
      all_goals refine nx_region ?_
      all_goals (refine nx_op ?_; refine opw_yld (Yld.move rfl) rfl ?_)
      all_goals (refine nx_op ?_; refine opw_yld (Yld.move rfl) rfl ?_)
      all_goals (refine nx_op ?_; refine opw_yld (Yld.lenSlice rfl) rfl ?_)
      all_goals (refine nx_op ?_; refine opw_yld (Yld.subI rfl rfl (by omega) (by omega)) rfl ?_)
      all_goals (refine nx_op ?_; refine opw_yld (Yld.cmp rfl rfl rfl) rfl ?_)
      all_goals refine nx_nil ?_
      all_goals refine kp_code_normal ?_
      all_goals (refine nx_cond rfl (fun hc => ?_) (fun hc => ?_))
      all_goals (first | (exact Bool.noConfusion (hc.symm.trans (by first | rfl | assumption) : true = false)) | (exact Bool.noConfusion (hc.symm.trans (by first | rfl | assumption) : false = true)) | (all_goals refine nx_exit ?_; all_goals refine kp_code_exit ?_; all_goals refine kp_blk_other rfl ?_; all_goals refine kp_code_exit ?_; all_goals refine kp_loop_exit ?_; all_goals refine kp_blk_exit rfl ?_; all_goals refine kp_code_normal ?_; all_goals refine nx_seq ?_; all_goals refine nx_draw (fun i => match i with | 7 => .read | 9 => .read | 11 => .read | 13 => .read | 14 => .hard | _ => .stab) [] [0, 1, 2, 3, 4, 5, 6, 7, 8, 9, 10, 11, 12, 13, 14, 15, 16, 17, 18, 19] rfl (by kernel_rfl) inferInstance ?_; all_goals (refine wk_stab rfl rfl (Yld.move rfl) rfl ?_); all_goals (refine wk_stab rfl rfl (Yld.move rfl) rfl ?_); all_goals (refine wk_stab rfl rfl (Yld.move rfl) rfl ?_); all_goals (refine wk_stab rfl rfl (Yld.move rfl) rfl ?_); all_goals (refine wk_stab rfl rfl (Yld.lenSlice rfl) rfl ?_); all_goals ((first | refine wk_stab rfl rfl (Yld.subI rfl rfl (by omega) (by omega)) rfl ?_ | refine wk_stab rfl rfl (Yld.sub rfl rfl) rfl ?_)); all_goals (refine wk_stab rfl rfl (Yld.indexAddr rfl rfl (by omega)) rfl ?_); all_goals (refine wk_read rfl rfl (Yld.load rfl) rfl ?_); all_goals (refine wk_stab rfl rfl (Yld.fieldAddr rfl) rfl ?_); all_goals (refine wk_read rfl rfl (Yld.load rfl) rfl ?_); all_goals (refine wk_stab rfl rfl (Yld.fieldAddr rfl) rfl ?_); all_goals (refine wk_read rfl rfl (Yld.load rfl) rfl ?_); all_goals (refine wk_stab rfl rfl (Yld.fieldAddr rfl) rfl ?_); all_goals (refine wk_read rfl rfl (Yld.load rfl) rfl ?_); all_goals ((refine wk_hard rfl rfl ?_; (fail); refine nx_keeps inferInstance ?_)); all_goals (refine wk_stab rfl rfl (Yld.move rfl) rfl ?_); all_goals (refine wk_stab rfl rfl (Yld.extract rfl rfl) rfl ?_); all_goals (refine wk_stab rfl rfl (Yld.extract rfl rfl) rfl ?_); all_goals (refine wk_stab rfl rfl (Yld.assign rfl) rfl ?_); all_goals (refine wk_stab rfl rfl (Yld.assign rfl) rfl ?_); all_goals refine wk_nil ?_; all_goals refine kp_code_normal ?_; all_goals refine nx_seq ?_; all_goals refine nx_seq ?_; all_goals refine nx_region ?_; all_goals (refine nx_op ?_; refine opw_yld (Yld.move rfl) rfl ?_); all_goals (refine nx_op ?_; refine opw_yld (Yld.cmp rfl rfl rfl) rfl ?_); all_goals (refine nx_op ?_; refine opw_yld (Yld.move rfl) rfl ?_); all_goals (first | refine nx_guard_n rfl (by first | rfl | assumption) rfl ?_ | refine nx_guard_u rfl rfl ?_ | ((first | refine nx_guard_y rfl (by first | rfl | assumption) ?_ | refine nx_guard rfl rfl (fun hc => ?_) (fun hc => ?_)); all_goals (first | (refine opw_yld (Yld.move rfl) rfl ?_) | skip))); all_goals (first | refine nx_guard_n rfl (by first | rfl | assumption) rfl ?_ | refine nx_guard_u rfl rfl ?_ | ((first | refine nx_guard_y rfl (by first | rfl | assumption) ?_ | refine nx_guard rfl rfl (fun hc => ?_) (fun hc => ?_)); all_goals (first | (refine opw_yld (Yld.cmp rfl rfl rfl) rfl ?_) | skip))); all_goals (refine nx_op ?_; (first | refine opw_yld (Yld.pick_t rfl (by first | rfl | assumption) rfl) rfl ?_ | refine opw_yld (Yld.pick_f rfl (by first | rfl | assumption) rfl) rfl ?_)); all_goals refine nx_nil ?_; all_goals refine kp_code_normal ?_; all_goals (refine nx_cond rfl (fun hc => ?_) (fun hc => ?_)); all_goals (first | (exact Bool.noConfusion (hc.symm.trans (by first | rfl | assumption) : true = false)) | (exact Bool.noConfusion (hc.symm.trans (by first | rfl | assumption) : false = true)) | (all_goals refine nx_seq ?_; all_goals refine nx_region ?_; all_goals (refine nx_op ?_; refine opw_yld (Yld.assign rfl) rfl ?_); all_goals refine nx_nil ?_; all_goals refine kp_code_normal ?_; all_goals refine nx_ret ?_; all_goals refine kp_code_ret ?_; all_goals (fail)) | (all_goals refine nx_skip ?_)); all_goals refine kp_code_normal ?_; all_goals refine nx_seq ?_; all_goals refine nx_region ?_; all_goals (refine nx_op ?_; refine opw_yld (Yld.move rfl) rfl ?_); all_goals (refine nx_op ?_; refine opw_yld (Yld.assign rfl) rfl ?_); all_goals refine nx_nil ?_; all_goals refine kp_code_normal ?_; all_goals refine nx_ret ?_; all_goals (fail)) | (all_goals refine nx_skip ?_))
      all_goals refine kp_code_normal ?_
      all_goals refine nx_seq ?_
      all_goals refine nx_region ?_
      all_goals (refine nx_op ?_; refine opw_yld (Yld.assign rfl) rfl ?_)
      all_goals refine nx_nil ?_
      all_goals refine kp_code_normal ?_
      all_goals refine nx_seq ?_
      all_goals refine nx_region ?_
      all_goals (refine nx_op ?_; refine opw_yld (Yld.move rfl) rfl ?_)
      all_goals (refine nx_op ?_; refine opw_yld (Yld.move rfl) rfl ?_)
      all_goals (refine nx_op ?_; refine opw_yld (Yld.move rfl) rfl ?_)
      all_goals (refine nx_op ?_; (refine opw_call rfl (sp61 (InT.of hT (by simp +contextual)) dir ps[i]) inferInstance rfl ?_; rintro _ _ ⟨rfl, rfl⟩; simp only [List.nil_append, findR_abs, hfd, pairV]))
      all_goals (refine nx_op ?_; refine opw_yld (Yld.move rfl) rfl ?_)
      all_goals (refine nx_op ?_; refine opw_yld (Yld.extract rfl rfl) rfl ?_)
      all_goals (refine nx_op ?_; refine opw_yld (Yld.extract rfl rfl) rfl ?_)
      all_goals (refine nx_op ?_; refine opw_yld (Yld.assign rfl) rfl ?_)
      all_goals (refine nx_op ?_; refine opw_yld (Yld.assign rfl) rfl ?_)
      all_goals refine nx_nil ?_
      all_goals refine kp_code_normal ?_
      all_goals refine nx_seq ?_
      all_goals refine nx_region ?_
      all_goals (refine nx_op ?_; refine opw_yld (Yld.move rfl) rfl ?_)
      all_goals (refine nx_op ?_; refine opw_yld (Yld.cmp rfl rfl rfl) rfl ?_)
      all_goals refine nx_nil ?_
      all_goals refine kp_code_normal ?_
      all_goals (refine nx_cond rfl (fun hc => ?_) (fun hc => ?_))
      all_goals (first | (exact Bool.noConfusion (hc.symm.trans (by first | rfl | assumption) : true = false)) | (exact Bool.noConfusion (hc.symm.trans (by first | rfl | assumption) : false = true)) | (all_goals refine nx_seq ?_; all_goals refine nx_region ?_; all_goals (refine nx_op ?_; refine opw_yld (Yld.assign rfl) rfl ?_); all_goals refine nx_nil ?_; all_goals refine kp_code_normal ?_; all_goals refine nx_ret ?_; all_goals refine kp_blk_ret ?_; all_goals refine kp_code_ret ?_; all_goals refine kp_loop_ret ?_; all_goals refine kp_blk_ret ?_; all_goals refine kp_code_ret ?_; all_goals (fail)) | (all_goals refine nx_skip ?_))
      all_goals refine kp_blk_normal ?_
      all_goals refine kp_code_normal ?_
      all_goals refine nx_region ?_
      all_goals (refine nx_op ?_; refine opw_yld (Yld.addI rfl rfl (by omega) (by omega)) rfl ?_)
      all_goals (refine nx_op ?_; refine opw_yld (Yld.move rfl) rfl ?_)
      all_goals refine nx_nil ?_
      exact nx_round (m' := ps.length - (i + 1)) (L' := [[(bp, .cells (ps.map Value.string).toArray 9 (0, 0))], [(b3, .cells [.string path, .int .i64 kind, .int .i64 mode, .slice a data.length cap].toArray 26 (0, 0))], T.chunk, F]) ⟨i + 1, f1, by omega, rfl, hgo2, rfl, rfl⟩ (by omega) (by repeat' (first | exact .nil | refine .cons rfl ?_)) inferInstance
    · rw [if_neg hf2] at hgo2
      subst hgo2
      have hb4 : (f2 != 0) = true := by simpa using hf2
      all_goals refine nx_seq ?_
      all_goals refine nx_region ?_
      all_goals (refine nx_op ?_; refine opw_yld (Yld.cmp rfl rfl rfl) rfl ?_)
      all_goals refine nx_nil ?_
      all_goals refine kp_code_normal ?_
      all_goals refine nx_seq ?_
      all_goals (refine nx_cond rfl (fun hc => ?_) (fun hc => ?_))
      all_goals (first | (exact Bool.noConfusion (hc.symm.trans (by first | rfl | assumption) : true = false)) | (exact Bool.noConfusion (hc.symm.trans (by first | rfl | assumption) : false = true)) | (all_goals refine nx_skip ?_) | (all_goals refine nx_exit ?_; all_goals refine kp_code_exit ?_; all_goals refine kp_loop_exit ?_; all_goals refine kp_blk_exit rfl ?_; all_goals refine kp_code_normal ?_; all_goals refine nx_seq ?_; all_goals refine nx_draw (fun i => match i with | 7 => .read | 9 => .read | 11 => .read | 13 => .read | 14 => .hard | _ => .stab) [] [0, 1, 2, 3, 4, 5, 6, 7, 8, 9, 10, 11, 12, 13, 14, 15, 16, 17, 18, 19] rfl (by kernel_rfl) inferInstance ?_; all_goals (refine wk_stab rfl rfl (Yld.move rfl) rfl ?_); all_goals (refine wk_stab rfl rfl (Yld.move rfl) rfl ?_); all_goals (refine wk_stab rfl rfl (Yld.move rfl) rfl ?_); all_goals (refine wk_stab rfl rfl (Yld.move rfl) rfl ?_); all_goals (refine wk_stab rfl rfl (Yld.lenSlice rfl) rfl ?_); all_goals ((first | refine wk_stab rfl rfl (Yld.subI rfl rfl (by omega) (by omega)) rfl ?_ | refine wk_stab rfl rfl (Yld.sub rfl rfl) rfl ?_)); all_goals (refine wk_stab rfl rfl (Yld.indexAddr rfl rfl (by omega)) rfl ?_); all_goals (refine wk_read rfl rfl (Yld.load rfl) rfl ?_); all_goals (refine wk_stab rfl rfl (Yld.fieldAddr rfl) rfl ?_); all_goals (refine wk_read rfl rfl (Yld.load rfl) rfl ?_); all_goals (refine wk_stab rfl rfl (Yld.fieldAddr rfl) rfl ?_); all_goals (refine wk_read rfl rfl (Yld.load rfl) rfl ?_); all_goals (refine wk_stab rfl rfl (Yld.fieldAddr rfl) rfl ?_); all_goals (refine wk_read rfl rfl (Yld.load rfl) rfl ?_); all_goals ((refine wk_hard rfl rfl ?_; (fail); refine nx_keeps inferInstance ?_)); all_goals (refine wk_stab rfl rfl (Yld.move rfl) rfl ?_); all_goals (refine wk_stab rfl rfl (Yld.extract rfl rfl) rfl ?_); all_goals (refine wk_stab rfl rfl (Yld.extract rfl rfl) rfl ?_); all_goals (refine wk_stab rfl rfl (Yld.assign rfl) rfl ?_); all_goals (refine wk_stab rfl rfl (Yld.assign rfl) rfl ?_); all_goals refine wk_nil ?_; all_goals refine kp_code_normal ?_; all_goals refine nx_seq ?_; all_goals refine nx_seq ?_; all_goals refine nx_region ?_; all_goals (refine nx_op ?_; refine opw_yld (Yld.move rfl) rfl ?_); all_goals (refine nx_op ?_; refine opw_yld (Yld.cmp rfl rfl rfl) rfl ?_); all_goals (refine nx_op ?_; refine opw_yld (Yld.move rfl) rfl ?_); all_goals (first | refine nx_guard_n rfl (by first | rfl | assumption) rfl ?_ | refine nx_guard_u rfl rfl ?_ | ((first | refine nx_guard_y rfl (by first | rfl | assumption) ?_ | refine nx_guard rfl rfl (fun hc => ?_) (fun hc => ?_)); all_goals (first | (refine opw_yld (Yld.move rfl) rfl ?_) | skip))); all_goals (first | refine nx_guard_n rfl (by first | rfl | assumption) rfl ?_ | refine nx_guard_u rfl rfl ?_ | ((first | refine nx_guard_y rfl (by first | rfl | assumption) ?_ | refine nx_guard rfl rfl (fun hc => ?_) (fun hc => ?_)); all_goals (first | (refine opw_yld (Yld.cmp rfl rfl rfl) rfl ?_) | skip))); all_goals (refine nx_op ?_; (first | refine opw_yld (Yld.pick_t rfl (by first | rfl | assumption) rfl) rfl ?_ | refine opw_yld (Yld.pick_f rfl (by first | rfl | assumption) rfl) rfl ?_)); all_goals refine nx_nil ?_; all_goals refine kp_code_normal ?_; all_goals (refine nx_cond rfl (fun hc => ?_) (fun hc => ?_)); all_goals (first | (exact Bool.noConfusion (hc.symm.trans (by first | rfl | assumption) : true = false)) | (exact Bool.noConfusion (hc.symm.trans (by first | rfl | assumption) : false = true)) | (all_goals refine nx_seq ?_; all_goals refine nx_region ?_; all_goals (refine nx_op ?_; refine opw_yld (Yld.assign rfl) rfl ?_); all_goals refine nx_nil ?_; all_goals refine kp_code_normal ?_; all_goals refine nx_ret ?_; all_goals refine kp_code_ret ?_; all_goals (exact res1 (by first | exact .inl rfl | exact .inr rfl) Tryd.results40 rfl [T.chunk] inferInstance ⟨rfl, Nxt.self hT⟩)) | (all_goals refine nx_skip ?_)); all_goals refine kp_code_normal ?_; all_goals refine nx_seq ?_; all_goals refine nx_region ?_; all_goals (refine nx_op ?_; refine opw_yld (Yld.move rfl) rfl ?_); all_goals (refine nx_op ?_; refine opw_yld (Yld.assign rfl) rfl ?_); all_goals refine nx_nil ?_; all_goals refine kp_code_normal ?_; all_goals refine nx_ret ?_; all_goals (exact res1 (by first | exact .inl rfl | exact .inr rfl) Tryd.results40 rfl [T.chunk] inferInstance ⟨rfl, Nxt.self hT⟩)))
      all_goals refine kp_code_normal ?_
      all_goals refine nx_seq ?_
      all_goals refine nx_block ?_
      all_goals refine nx_seq ?_
      all_goals refine nx_region ?_
      all_goals (refine nx_op ?_; refine opw_yld (Yld.move rfl) rfl ?_)
      all_goals (refine nx_op ?_; refine opw_yld (Yld.indexAddr rfl rfl (by omega)) rfl ?_)
      all_goals (refine nx_op ?_; refine opw_yld (Yld.load rfl) rfl ?_)
      all_goals (refine nx_op ?_; refine opw_yld (Yld.assign rfl) rfl ?_)
      all_goals (refine nx_op ?_; refine opw_yld (Yld.assign rfl) rfl ?_)
      all_goals refine nx_nil ?_
      all_goals refine kp_code_normal ?_
      all_goals refine nx_seq ?_
      all_goals refine nx_seq ?_
      all_goals refine nx_region ?_
      all_goals (refine nx_op ?_; refine opw_yld (Yld.move rfl) rfl ?_)
      all_goals (refine nx_op ?_; (refine opw_call rfl (sp21 _ _) inferInstance rfl ?_; rintro _ _ ⟨rfl, rfl⟩; simp only [List.nil_append, hgn]))
      all_goals (refine nx_op ?_; refine opw_yld (Yld.not rfl) rfl ?_)
      all_goals refine nx_nil ?_
      all_goals refine kp_code_normal ?_
      all_goals (refine nx_cond rfl (fun hc => ?_) (fun hc => ?_))
      all_goals (first | (exact Bool.noConfusion (hc.symm.trans (by first | rfl | assumption) : true = false)) | (exact Bool.noConfusion (hc.symm.trans (by first | rfl | assumption) : false = true)) | (all_goals refine nx_seq ?_; all_goals refine nx_region ?_; all_goals (refine nx_op ?_; refine opw_yld (Yld.assign rfl) rfl ?_); all_goals refine nx_nil ?_; all_goals refine kp_code_normal ?_; all_goals refine nx_ret ?_; all_goals refine kp_code_ret ?_; all_goals refine kp_blk_ret ?_; all_goals refine kp_code_ret ?_; all_goals refine kp_loop_ret ?_; all_goals refine kp_blk_ret ?_; all_goals refine kp_code_ret ?_; all_goals (exact res1 (by first | exact .inl rfl | exact .inr rfl) Tryd.results40 rfl [T.chunk] inferInstance ⟨rfl, Nxt.self hT⟩)) | (all_goals refine nx_skip ?_))
      all_goals refine kp_code_normal ?_
      all_goals refine nx_seq ?_
      all_goals refine nx_seq ?_
      all_goals refine nx_region ?_
      all_goals (refine nx_op ?_; refine opw_yld (Yld.move rfl) rfl ?_)
      all_goals (refine nx_op ?_; refine opw_yld (Yld.move rfl) rfl ?_)
      all_goals (refine nx_op ?_; refine opw_yld (Yld.lenSlice rfl) rfl ?_)
      all_goals (refine nx_op ?_; refine opw_yld (Yld.subI rfl rfl (by omega) (by omega)) rfl ?_)
      all_goals (refine nx_op ?_; refine opw_yld (Yld.cmp rfl rfl rfl) rfl ?_)
      all_goals refine nx_nil ?_
      all_goals refine kp_code_normal ?_
      all_goals (refine nx_cond rfl (fun hc => ?_) (fun hc => ?_))
      all_goals (first | (exact Bool.noConfusion (hc.symm.trans (by first | rfl | assumption) : true = false)) | (exact Bool.noConfusion (hc.symm.trans (by first | rfl | assumption) : false = true)) | (all_goals refine nx_exit ?_; all_goals refine kp_code_exit ?_; all_goals refine kp_blk_other rfl ?_; all_goals refine kp_code_exit ?_; all_goals refine kp_loop_exit ?_; all_goals refine kp_blk_exit rfl ?_; all_goals refine kp_code_normal ?_; all_goals refine nx_seq ?_; all_goals refine nx_draw (fun i => match i with | 7 => .read | 9 => .read | 11 => .read | 13 => .read | 14 => .hard | _ => .stab) [] [0, 1, 2, 3, 4, 5, 6, 7, 8, 9, 10, 11, 12, 13, 14, 15, 16, 17, 18, 19] rfl (by kernel_rfl) inferInstance ?_; all_goals (refine wk_stab rfl rfl (Yld.move rfl) rfl ?_); all_goals (refine wk_stab rfl rfl (Yld.move rfl) rfl ?_); all_goals (refine wk_stab rfl rfl (Yld.move rfl) rfl ?_); all_goals (refine wk_stab rfl rfl (Yld.move rfl) rfl ?_); all_goals (refine wk_stab rfl rfl (Yld.lenSlice rfl) rfl ?_); all_goals ((first | refine wk_stab rfl rfl (Yld.subI rfl rfl (by omega) (by omega)) rfl ?_ | refine wk_stab rfl rfl (Yld.sub rfl rfl) rfl ?_)); all_goals (refine wk_stab rfl rfl (Yld.indexAddr rfl rfl (by omega)) rfl ?_); all_goals (refine wk_read rfl rfl (Yld.load rfl) rfl ?_); all_goals (refine wk_stab rfl rfl (Yld.fieldAddr rfl) rfl ?_); all_goals (refine wk_read rfl rfl (Yld.load rfl) rfl ?_); all_goals (refine wk_stab rfl rfl (Yld.fieldAddr rfl) rfl ?_); all_goals (refine wk_read rfl rfl (Yld.load rfl) rfl ?_); all_goals (refine wk_stab rfl rfl (Yld.fieldAddr rfl) rfl ?_); all_goals (refine wk_read rfl rfl (Yld.load rfl) rfl ?_); all_goals ((refine wk_hard rfl rfl ?_; (fail); refine nx_keeps inferInstance ?_)); all_goals (refine wk_stab rfl rfl (Yld.move rfl) rfl ?_); all_goals (refine wk_stab rfl rfl (Yld.extract rfl rfl) rfl ?_); all_goals (refine wk_stab rfl rfl (Yld.extract rfl rfl) rfl ?_); all_goals (refine wk_stab rfl rfl (Yld.assign rfl) rfl ?_); all_goals (refine wk_stab rfl rfl (Yld.assign rfl) rfl ?_); all_goals refine wk_nil ?_; all_goals refine kp_code_normal ?_; all_goals refine nx_seq ?_; all_goals refine nx_seq ?_; all_goals refine nx_region ?_; all_goals (refine nx_op ?_; refine opw_yld (Yld.move rfl) rfl ?_); all_goals (refine nx_op ?_; refine opw_yld (Yld.cmp rfl rfl rfl) rfl ?_); all_goals (refine nx_op ?_; refine opw_yld (Yld.move rfl) rfl ?_); all_goals (first | refine nx_guard_n rfl (by first | rfl | assumption) rfl ?_ | refine nx_guard_u rfl rfl ?_ | ((first | refine nx_guard_y rfl (by first | rfl | assumption) ?_ | refine nx_guard rfl rfl (fun hc => ?_) (fun hc => ?_)); all_goals (first | (refine opw_yld (Yld.move rfl) rfl ?_) | skip))); all_goals (first | refine nx_guard_n rfl (by first | rfl | assumption) rfl ?_ | refine nx_guard_u rfl rfl ?_ | ((first | refine nx_guard_y rfl (by first | rfl | assumption) ?_ | refine nx_guard rfl rfl (fun hc => ?_) (fun hc => ?_)); all_goals (first | (refine opw_yld (Yld.cmp rfl rfl rfl) rfl ?_) | skip))); all_goals (refine nx_op ?_; (first | refine opw_yld (Yld.pick_t rfl (by first | rfl | assumption) rfl) rfl ?_ | refine opw_yld (Yld.pick_f rfl (by first | rfl | assumption) rfl) rfl ?_)); all_goals refine nx_nil ?_; all_goals refine kp_code_normal ?_; all_goals (refine nx_cond rfl (fun hc => ?_) (fun hc => ?_)); all_goals (first | (exact Bool.noConfusion (hc.symm.trans (by first | rfl | assumption) : true = false)) | (exact Bool.noConfusion (hc.symm.trans (by first | rfl | assumption) : false = true)) | (all_goals refine nx_seq ?_; all_goals refine nx_region ?_; all_goals (refine nx_op ?_; refine opw_yld (Yld.assign rfl) rfl ?_); all_goals refine nx_nil ?_; all_goals refine kp_code_normal ?_; all_goals refine nx_ret ?_; all_goals refine kp_code_ret ?_; all_goals (exact res1 (by first | exact .inl rfl | exact .inr rfl) Tryd.results40 rfl [T.chunk] inferInstance ⟨rfl, Nxt.self hT⟩)) | (all_goals refine nx_skip ?_)); all_goals refine kp_code_normal ?_; all_goals refine nx_seq ?_; all_goals refine nx_region ?_; all_goals (refine nx_op ?_; refine opw_yld (Yld.move rfl) rfl ?_); all_goals (refine nx_op ?_; refine opw_yld (Yld.assign rfl) rfl ?_); all_goals refine nx_nil ?_; all_goals refine kp_code_normal ?_; all_goals refine nx_ret ?_; all_goals (exact res1 (by first | exact .inl rfl | exact .inr rfl) Tryd.results40 rfl [T.chunk] inferInstance ⟨rfl, Nxt.self hT⟩)) | (all_goals refine nx_skip ?_))
      all_goals refine kp_code_normal ?_
      all_goals refine nx_seq ?_
      all_goals refine nx_region ?_
      all_goals (refine nx_op ?_; refine opw_yld (Yld.assign rfl) rfl ?_)
      all_goals refine nx_nil ?_
      all_goals refine kp_code_normal ?_
      all_goals refine nx_seq ?_
      all_goals refine nx_region ?_
      all_goals (refine nx_op ?_; refine opw_yld (Yld.move rfl) rfl ?_)
      all_goals (refine nx_op ?_; refine opw_yld (Yld.move rfl) rfl ?_)
      all_goals (refine nx_op ?_; refine opw_yld (Yld.move rfl) rfl ?_)
      all_goals (refine nx_op ?_; (refine opw_call rfl (sp61 (InT.of hT (by simp +contextual)) dir ps[i]) inferInstance rfl ?_; rintro _ _ ⟨rfl, rfl⟩; simp only [List.nil_append, findR_abs, hfd, pairV]))
      all_goals (refine nx_op ?_; refine opw_yld (Yld.move rfl) rfl ?_)
      all_goals (refine nx_op ?_; refine opw_yld (Yld.extract rfl rfl) rfl ?_)
      all_goals (refine nx_op ?_; refine opw_yld (Yld.extract rfl rfl) rfl ?_)
      all_goals (refine nx_op ?_; refine opw_yld (Yld.assign rfl) rfl ?_)
      all_goals (refine nx_op ?_; refine opw_yld (Yld.assign rfl) rfl ?_)
      all_goals refine nx_nil ?_
      all_goals refine kp_code_normal ?_
      all_goals refine nx_seq ?_
      all_goals refine nx_region ?_
      all_goals (refine nx_op ?_; refine opw_yld (Yld.move rfl) rfl ?_)
      all_goals (refine nx_op ?_; refine opw_yld (Yld.cmp rfl rfl rfl) rfl ?_)
      all_goals refine nx_nil ?_
      all_goals refine kp_code_normal ?_
      all_goals (refine nx_cond rfl (fun hc => ?_) (fun hc => ?_))
      all_goals (first | (exact Bool.noConfusion (hc.symm.trans (by first | rfl | assumption) : true = false)) | (exact Bool.noConfusion (hc.symm.trans (by first | rfl | assumption) : false = true)) | (all_goals refine nx_seq ?_; all_goals refine nx_region ?_; all_goals (refine nx_op ?_; refine opw_yld (Yld.assign rfl) rfl ?_); all_goals refine nx_nil ?_; all_goals refine kp_code_normal ?_; all_goals refine nx_ret ?_; all_goals refine kp_blk_ret ?_; all_goals refine kp_code_ret ?_; all_goals refine kp_loop_ret ?_; all_goals refine kp_blk_ret ?_; all_goals refine kp_code_ret ?_; all_goals (exact res1 (by first | exact .inl rfl | exact .inr rfl) Tryd.results40 rfl [T.chunk] inferInstance ⟨rfl, Nxt.self hT⟩)) | (all_goals refine nx_skip ?_))
      all_goals refine kp_blk_normal ?_
      all_goals refine kp_code_normal ?_
      all_goals refine nx_region ?_
      all_goals (refine nx_op ?_; fail)
      all_goals (refine nx_op ?_; refine opw_yld (Yld.move rfl) rfl ?_)
      all_goals refine nx_nil ?_
end
end Go.Proofs.YtdobndclhbkooaaDoor
