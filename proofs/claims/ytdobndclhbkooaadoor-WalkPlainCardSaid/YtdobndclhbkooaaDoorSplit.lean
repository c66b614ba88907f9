/- strings.Split at a separator of one byte: the pieces between its instances, in a new array. Conditions: the string is shorter than 2^31 bytes. -/
import Derived.Test.YtdobndclhbkooaaDoorStr
namespace Go.Proofs.YtdobndclhbkooaaDoor
open Go Go.SL
set_option maxRecDepth 100000
set_option linter.unusedVariables false

/-- The pieces between the instances of one byte. -/
def splitB (c : UInt8) : List UInt8 → List (List UInt8)
  | [] => [[]]
  | x :: l => if x == c then [] :: splitB c l else match splitB c l with
    | h :: t => (x :: h) :: t
    | [] => [[x]]
theorem splitB_len (c : UInt8) (l : List UInt8) : (splitB c l).length = l.count c + 1 := by
  induction l with
  | nil => rfl
  | cons x l ih =>
    simp only [splitB, List.count_cons]
    by_cases h : x == c
    · simp [h, ih]
    · simp only [h]
      cases hs : splitB c l with
      | nil => rw [hs] at ih; simp at ih
      | cons a t => rw [hs] at ih; simp at ih; simp [ih]
theorem splitB_none (c : UInt8) (l : List UInt8) (h : l.count c = 0) : splitB c l = [l] := by
  induction l with
  | nil => rfl
  | cons x l ih =>
    rw [List.count_cons] at h
    have hx : (x == c) = false := by
      cases hb : x == c with
      | false => rfl
      | true => rw [hb] at h; simp at h
    rw [hx] at h
    simp only [splitB, hx, ih (by simpa using h)]
    rfl
theorem splitB_some (c : UInt8) (l : List UInt8) (h : 0 < l.count c) : ∃ m : Nat, Lib.indexByte l c = m ∧ m < l.length ∧ splitB c l = l.take m :: splitB c (l.drop (m + 1)) ∧ (l.drop (m + 1)).count c + 1 = l.count c := by
  induction l with
  | nil => simp at h
  | cons x l ih =>
    by_cases hx : x == c
    · exact ⟨0, by simp [Lib.indexByte, hx], by simp, by simp [splitB, hx], by simp [List.count_cons, hx]⟩
    · have hx' : (x == c) = false := by simpa using hx
      rw [List.count_cons, hx'] at h
      obtain ⟨m, h1, h2, h3, h4⟩ := ih (by simpa using h)
      refine ⟨m + 1, ?_, by simp; omega, ?_, ?_⟩
      · simp only [Lib.indexByte, hx', h1]
        rw [if_neg (by simp), if_neg (by simp)]
        simp
      · simp [splitB, hx', h3]
      · rw [List.count_cons, hx']
        simpa using h4

theorem nat_u8 (c : UInt8) : (c.toNat : Int).toNat.toUInt8 = c := by simp

/-- stringslite.Index. -/
theorem sp146 (s : ByteArray) (c : UInt8) (F : Chunk) : Sp Tryd.prog 146 [.string s, .string ⟨#[c]⟩] F [] (fun v B => v = .int .i64 (Lib.indexByte (bs s) c) ∧ B = []) := by
  refine sp_enter Tryd.func146 rfl Tryd.ntmps146 rfl (fun g => ?_)
  simp only [argFr, List.nil_append, Nat.reduceAdd]
  by_cases h : bs s = [c]
  · have hb : (ByteArray.mk #[c]).data.toList == s.data.toList := by simpa using h.symm
    have hi : Lib.indexByte (bs s) c = 0 := by rw [h]; simp [Lib.indexByte]
    rw [hi]
    all_goals refine nx_seq ?_
    all_goals refine nx_region ?_
    all_goals (refine nx_op ?_; refine opw_yld (Yld.assign rfl) rfl ?_)
    all_goals refine nx_nil ?_
    all_goals refine kp_code_normal ?_
    all_goals refine nx_seq ?_
    all_goals refine nx_region ?_
    all_goals (refine nx_op ?_; refine opw_yld (Yld.move rfl) rfl ?_)
    all_goals (refine nx_op ?_; refine opw_yld (Yld.lenString rfl) rfl ?_)
    all_goals (refine nx_op ?_; refine opw_yld (Yld.assign rfl) rfl ?_)
    all_goals refine nx_nil ?_
    all_goals refine kp_code_normal ?_
    all_goals refine nx_seq ?_
    all_goals refine nx_block ?_
    all_goals refine nx_seq ?_
    all_goals refine nx_region ?_
    all_goals (refine nx_op ?_; refine opw_yld (Yld.move rfl) rfl ?_)
    all_goals (refine nx_op ?_; refine opw_yld (Yld.cmp rfl rfl rfl) rfl ?_)
    all_goals (refine nx_op ?_; refine opw_yld (Yld.move rfl) rfl ?_)
    all_goals (first | refine nx_guard_n rfl (by first | rfl | assumption) rfl ?_ | refine nx_guard_u rfl rfl ?_ | ((first | refine nx_guard_y rfl (by first | rfl | assumption) ?_ | refine nx_guard rfl rfl (fun hc => ?_) (fun hc => ?_)); all_goals (first | (refine opw_yld (Yld.move rfl) rfl ?_) | skip)))
    all_goals (first | refine nx_guard_n rfl (by first | rfl | assumption) rfl ?_ | refine nx_guard_u rfl rfl ?_ | ((first | refine nx_guard_y rfl (by first | rfl | assumption) ?_ | refine nx_guard rfl rfl (fun hc => ?_) (fun hc => ?_)); all_goals (first | (refine opw_yld (Yld.move rfl) rfl ?_) | skip)))
    all_goals (first | refine nx_guard_n rfl (by first | rfl | assumption) rfl ?_ | refine nx_guard_u rfl rfl ?_ | ((first | refine nx_guard_y rfl (by first | rfl | assumption) ?_ | refine nx_guard rfl rfl (fun hc => ?_) (fun hc => ?_)); all_goals (first | (refine opw_yld (Yld.eqS rfl rfl) rfl ?_) | skip)))
    all_goals (refine nx_op ?_; (first | refine opw_yld (Yld.pick_t rfl (by first | rfl | assumption) rfl) rfl ?_ | refine opw_yld (Yld.pick_f rfl (by first | rfl | assumption) rfl) rfl ?_))
    all_goals (refine nx_op ?_; refine opw_yld (Yld.assign rfl) rfl ?_)
    all_goals refine nx_nil ?_
    all_goals refine kp_code_normal ?_
    all_goals (refine nx_cond rfl (fun hc => ?_) (fun hc => ?_))
    all_goals (first | (exact Bool.noConfusion (hc.symm.trans (by first | rfl | assumption) : true = false)) | (exact Bool.noConfusion (hc.symm.trans (by first | rfl | assumption) : false = true)) | (all_goals refine nx_seq ?_; all_goals refine nx_region ?_; all_goals (refine nx_op ?_; refine opw_yld (Yld.assign rfl) rfl ?_); all_goals refine nx_nil ?_; all_goals refine kp_code_normal ?_; all_goals refine nx_ret ?_; all_goals refine kp_blk_ret ?_; all_goals refine kp_code_ret ?_; all_goals (exact res1 (by first | exact .inl rfl | exact .inr rfl) Tryd.results146 rfl [] inferInstance ⟨rfl, rfl⟩)) | (all_goals refine nx_seq ?_; all_goals refine nx_region ?_; all_goals (refine nx_op ?_; refine opw_yld (Yld.move rfl) rfl ?_); all_goals (refine nx_op ?_; refine opw_yld (Yld.cmp rfl rfl rfl) rfl ?_); all_goals (refine nx_op ?_; refine opw_yld (Yld.assign rfl) rfl ?_); all_goals refine nx_nil ?_; all_goals refine kp_code_normal ?_; all_goals (refine nx_cond rfl (fun hc => ?_) (fun hc => ?_)); all_goals (first | (exact Bool.noConfusion (hc.symm.trans (by first | rfl | assumption) : true = false)) | (exact Bool.noConfusion (hc.symm.trans (by first | rfl | assumption) : false = true)) | (all_goals refine nx_seq ?_; all_goals refine nx_region ?_; all_goals (refine nx_op ?_; refine opw_yld (Yld.move rfl) rfl ?_); all_goals (refine nx_op ?_; refine opw_yld (Yld.move rfl) rfl ?_); all_goals (refine nx_op ?_; refine opw_yld (Yld.indexS rfl rfl (by assumption)) rfl ?_); all_goals (refine nx_op ?_; (refine opw_call rfl (sp118 _ _ _) inferInstance rfl ?_; rintro _ _ ⟨rfl, rfl⟩; simp only [List.nil_append])); all_goals (refine nx_op ?_; refine opw_yld (Yld.assign rfl) rfl ?_); all_goals refine nx_nil ?_; all_goals refine kp_code_normal ?_; all_goals refine nx_ret ?_; all_goals refine kp_blk_ret ?_; all_goals refine kp_code_ret ?_; all_goals (exact res1 (by first | exact .inl rfl | exact .inr rfl) Tryd.results146 rfl [] inferInstance ⟨rfl, rfl⟩)) | (all_goals refine nx_seq ?_; all_goals refine nx_region ?_; all_goals (refine nx_op ?_; refine opw_yld (Yld.move rfl) rfl ?_); all_goals (refine nx_op ?_; refine opw_yld (Yld.move rfl) rfl ?_); all_goals (refine nx_op ?_; refine opw_yld (Yld.lenString rfl) rfl ?_); all_goals (refine nx_op ?_; refine opw_yld (Yld.cmp rfl rfl rfl) rfl ?_); all_goals (refine nx_op ?_; refine opw_yld (Yld.assign rfl) rfl ?_); all_goals refine nx_nil ?_; all_goals refine kp_code_normal ?_; all_goals (refine nx_cond rfl (fun hc => ?_) (fun hc => ?_)); all_goals (first | (exact Bool.noConfusion (hc.symm.trans (by first | rfl | assumption) : true = false)) | (exact Bool.noConfusion (hc.symm.trans (by first | rfl | assumption) : false = true)) | (all_goals refine nx_seq ?_; all_goals refine nx_region ?_; all_goals (refine nx_op ?_; refine opw_yld (Yld.assign rfl) rfl ?_); all_goals refine nx_nil ?_; all_goals refine kp_code_normal ?_; all_goals refine nx_ret ?_; all_goals refine kp_blk_ret ?_; all_goals refine kp_code_ret ?_; all_goals (exact res1 (by first | exact .inl rfl | exact .inr rfl) Tryd.results146 rfl [] inferInstance ⟨rfl, rfl⟩)) | (all_goals refine nx_seq ?_; all_goals refine nx_region ?_; all_goals (refine nx_op ?_; refine opw_yld (Yld.move rfl) rfl ?_); all_goals (refine nx_op ?_; refine opw_yld (Yld.load rfl) rfl ?_); all_goals (refine nx_op ?_; refine opw_yld (Yld.cmp rfl rfl rfl) rfl ?_); all_goals (refine nx_op ?_; refine opw_yld (Yld.move rfl) rfl ?_); all_goals (first | refine nx_guard_n rfl (by first | rfl | assumption) rfl ?_ | refine nx_guard_u rfl rfl ?_ | ((first | refine nx_guard_y rfl (by first | rfl | assumption) ?_ | refine nx_guard rfl rfl (fun hc => ?_) (fun hc => ?_)); all_goals (first | (refine opw_yld (Yld.move rfl) rfl ?_) | skip))); all_goals (first | refine nx_guard_n rfl (by first | rfl | assumption) rfl ?_ | refine nx_guard_u rfl rfl ?_ | ((first | refine nx_guard_y rfl (by first | rfl | assumption) ?_ | refine nx_guard rfl rfl (fun hc => ?_) (fun hc => ?_)); all_goals (first | (refine opw_yld (Yld.lenString rfl) rfl ?_) | skip))); all_goals (first | refine nx_guard_n rfl (by first | rfl | assumption) rfl ?_ | refine nx_guard_u rfl rfl ?_ | ((first | refine nx_guard_y rfl (by first | rfl | assumption) ?_ | refine nx_guard rfl rfl (fun hc => ?_) (fun hc => ?_)); all_goals (first | (refine opw_yld (Yld.cmp rfl rfl rfl) rfl ?_) | skip))); all_goals (refine nx_op ?_; (first | refine opw_yld (Yld.pick_t rfl (by first | rfl | assumption) rfl) rfl ?_ | refine opw_yld (Yld.pick_f rfl (by first | rfl | assumption) rfl) rfl ?_)); all_goals (refine nx_op ?_; refine opw_yld (Yld.assign rfl) rfl ?_); all_goals refine nx_nil ?_; all_goals refine kp_code_normal ?_; all_goals (refine nx_cond rfl (fun hc => ?_) (fun hc => ?_)); all_goals (first | (exact Bool.noConfusion (hc.symm.trans (by first | rfl | assumption) : true = false)) | (exact Bool.noConfusion (hc.symm.trans (by first | rfl | assumption) : false = true)) | (all_goals refine nx_seq ?_; all_goals refine nx_region ?_; all_goals (refine nx_op ?_; refine opw_yld (Yld.move rfl) rfl ?_); all_goals (refine nx_op ?_; refine opw_yld (Yld.move rfl) rfl ?_); all_goals (refine nx_op ?_; fail "call 148: r9.2"); all_goals (refine nx_op ?_; refine opw_yld (Yld.assign rfl) rfl ?_); all_goals refine nx_nil ?_; all_goals refine kp_code_normal ?_; all_goals refine nx_ret ?_; all_goals refine kp_blk_ret ?_; all_goals refine kp_code_ret ?_; all_goals (exact res1 (by first | exact .inl rfl | exact .inr rfl) Tryd.results146 rfl [] inferInstance ⟨rfl, rfl⟩)) | (all_goals refine nx_skip ?_))))))))
    all_goals refine kp_blk_normal ?_
    all_goals refine kp_code_normal ?_
    all_goals refine nx_seq ?_
    all_goals refine nx_region ?_
    all_goals (refine nx_op ?_; refine opw_yld (Yld.move rfl) rfl ?_)
    all_goals (refine nx_op ?_; refine opw_yld (Yld.indexS rfl rfl (by assumption)) rfl ?_)
    all_goals (refine nx_op ?_; refine opw_yld (Yld.assign rfl) rfl ?_)
    all_goals refine nx_nil ?_
    all_goals refine kp_code_normal ?_
    all_goals refine nx_seq ?_
    all_goals refine nx_region ?_
    all_goals (refine nx_op ?_; refine opw_yld (Yld.move rfl) rfl ?_)
    all_goals (refine nx_op ?_; refine opw_yld (Yld.indexS rfl rfl (by assumption)) rfl ?_)
    all_goals (refine nx_op ?_; refine opw_yld (Yld.assign rfl) rfl ?_)
    all_goals refine nx_nil ?_
    all_goals refine kp_code_normal ?_
    all_goals refine nx_seq ?_
    all_goals refine nx_region ?_
    all_goals (refine nx_op ?_; refine opw_yld (Yld.assign rfl) rfl ?_)
    all_goals refine nx_nil ?_
    all_goals refine kp_code_normal ?_
    all_goals refine nx_seq ?_
    all_goals refine nx_region ?_
    all_goals (refine nx_op ?_; refine opw_yld (Yld.move rfl) rfl ?_)
    all_goals (refine nx_op ?_; refine opw_yld (Yld.lenString rfl) rfl ?_)
    all_goals (refine nx_op ?_; refine opw_yld (Yld.move rfl) rfl ?_)
    all_goals (refine nx_op ?_; (first | refine opw_yld (Yld.subI rfl rfl (by omega) (by omega)) rfl ?_ | refine opw_yld (Yld.sub rfl rfl) rfl ?_))
    all_goals (refine nx_op ?_; (first | refine opw_yld (Yld.addI rfl rfl (by omega) (by omega)) rfl ?_ | refine opw_yld (Yld.add rfl rfl) rfl ?_))
    all_goals (refine nx_op ?_; refine opw_yld (Yld.assign rfl) rfl ?_)
    all_goals refine nx_nil ?_
    all_goals refine kp_code_normal ?_
    all_goals refine nx_seq ?_
    all_goals refine nx_region ?_
    all_goals (refine nx_op ?_; refine opw_yld (Yld.assign rfl) rfl ?_)
    all_goals refine nx_nil ?_
    all_goals refine kp_code_normal ?_
    all_goals refine nx_seq ?_
    all_goals refine nx_block ?_
  · have hb : ((ByteArray.mk #[c]).data.toList == s.data.toList) = false := by simpa using fun e => h (by simpa using e.symm)
    all_goals refine nx_seq ?_
    all_goals refine nx_region ?_
    all_goals (refine nx_op ?_; refine opw_yld (Yld.assign rfl) rfl ?_)
    all_goals refine nx_nil ?_
    all_goals refine kp_code_normal ?_
    all_goals refine nx_seq ?_
    all_goals refine nx_region ?_
    all_goals (refine nx_op ?_; refine opw_yld (Yld.move rfl) rfl ?_)
    all_goals (refine nx_op ?_; refine opw_yld (Yld.lenString rfl) rfl ?_)
    all_goals (refine nx_op ?_; refine opw_yld (Yld.assign rfl) rfl ?_)
    all_goals refine nx_nil ?_
    all_goals refine kp_code_normal ?_
    all_goals refine nx_seq ?_
    all_goals refine nx_block ?_
    all_goals refine nx_seq ?_
    all_goals refine nx_region ?_
    all_goals (refine nx_op ?_; refine opw_yld (Yld.move rfl) rfl ?_)
    all_goals (refine nx_op ?_; refine opw_yld (Yld.cmp rfl rfl rfl) rfl ?_)
    all_goals (refine nx_op ?_; refine opw_yld (Yld.move rfl) rfl ?_)
    all_goals (first | refine nx_guard_n rfl (by first | rfl | assumption) rfl ?_ | refine nx_guard_u rfl rfl ?_ | ((first | refine nx_guard_y rfl (by first | rfl | assumption) ?_ | refine nx_guard rfl rfl (fun hc => ?_) (fun hc => ?_)); all_goals (first | (refine opw_yld (Yld.move rfl) rfl ?_) | skip)))
    all_goals (first | refine nx_guard_n rfl (by first | rfl | assumption) rfl ?_ | refine nx_guard_u rfl rfl ?_ | ((first | refine nx_guard_y rfl (by first | rfl | assumption) ?_ | refine nx_guard rfl rfl (fun hc => ?_) (fun hc => ?_)); all_goals (first | (refine opw_yld (Yld.move rfl) rfl ?_) | skip)))
    all_goals (first | refine nx_guard_n rfl (by first | rfl | assumption) rfl ?_ | refine nx_guard_u rfl rfl ?_ | ((first | refine nx_guard_y rfl (by first | rfl | assumption) ?_ | refine nx_guard rfl rfl (fun hc => ?_) (fun hc => ?_)); all_goals (first | (refine opw_yld (Yld.eqS rfl rfl) rfl ?_) | skip)))
    all_goals (refine nx_op ?_; (first | refine opw_yld (Yld.pick_t rfl (by first | rfl | assumption) rfl) rfl ?_ | refine opw_yld (Yld.pick_f rfl (by first | rfl | assumption) rfl) rfl ?_))
    all_goals (refine nx_op ?_; refine opw_yld (Yld.assign rfl) rfl ?_)
    all_goals refine nx_nil ?_
    all_goals refine kp_code_normal ?_
    all_goals (refine nx_cond rfl (fun hc => ?_) (fun hc => ?_))
    all_goals (first | (exact Bool.noConfusion (hc.symm.trans (by first | rfl | assumption) : true = false)) | (exact Bool.noConfusion (hc.symm.trans (by first | rfl | assumption) : false = true)) | (all_goals refine nx_seq ?_; all_goals refine nx_region ?_; all_goals (refine nx_op ?_; refine opw_yld (Yld.assign rfl) rfl ?_); all_goals refine nx_nil ?_; all_goals refine kp_code_normal ?_; all_goals refine nx_ret ?_; all_goals refine kp_blk_ret ?_; all_goals refine kp_code_ret ?_; all_goals (exact res1 (by first | exact .inl rfl | exact .inr rfl) Tryd.results146 rfl [] inferInstance ⟨by rw [nat_u8], rfl⟩)) | (all_goals refine nx_seq ?_; all_goals refine nx_region ?_; all_goals (refine nx_op ?_; refine opw_yld (Yld.move rfl) rfl ?_); all_goals (refine nx_op ?_; refine opw_yld (Yld.cmp rfl rfl rfl) rfl ?_); all_goals (refine nx_op ?_; refine opw_yld (Yld.assign rfl) rfl ?_); all_goals refine nx_nil ?_; all_goals refine kp_code_normal ?_; all_goals (refine nx_cond rfl (fun hc => ?_) (fun hc => ?_)); all_goals (first | (exact Bool.noConfusion (hc.symm.trans (by first | rfl | assumption) : true = false)) | (exact Bool.noConfusion (hc.symm.trans (by first | rfl | assumption) : false = true)) | (all_goals refine nx_seq ?_; all_goals refine nx_region ?_; all_goals (refine nx_op ?_; refine opw_yld (Yld.move rfl) rfl ?_); all_goals (refine nx_op ?_; refine opw_yld (Yld.move rfl) rfl ?_); all_goals (refine nx_op ?_; refine opw_yld (Yld.indexS rfl rfl rfl) rfl ?_); all_goals (refine nx_op ?_; (refine opw_call rfl (sp118 _ _ _) inferInstance rfl ?_; rintro _ _ ⟨rfl, rfl⟩; simp only [List.nil_append])); all_goals (refine nx_op ?_; refine opw_yld (Yld.assign rfl) rfl ?_); all_goals refine nx_nil ?_; all_goals refine kp_code_normal ?_; all_goals refine nx_ret ?_; all_goals refine kp_blk_ret ?_; all_goals refine kp_code_ret ?_; all_goals (exact res1 (by first | exact .inl rfl | exact .inr rfl) Tryd.results146 rfl [] inferInstance ⟨by rw [nat_u8], rfl⟩)) | (all_goals refine nx_seq ?_; all_goals refine nx_region ?_; all_goals (refine nx_op ?_; refine opw_yld (Yld.move rfl) rfl ?_); all_goals (refine nx_op ?_; refine opw_yld (Yld.move rfl) rfl ?_); all_goals (refine nx_op ?_; refine opw_yld (Yld.lenString rfl) rfl ?_); all_goals (refine nx_op ?_; refine opw_yld (Yld.cmp rfl rfl rfl) rfl ?_); all_goals (refine nx_op ?_; refine opw_yld (Yld.assign rfl) rfl ?_); all_goals refine nx_nil ?_; all_goals refine kp_code_normal ?_; all_goals (refine nx_cond rfl (fun hc => ?_) (fun hc => ?_)); all_goals (first | (exact Bool.noConfusion (hc.symm.trans (by first | rfl | assumption) : true = false)) | (exact Bool.noConfusion (hc.symm.trans (by first | rfl | assumption) : false = true)) | (all_goals refine nx_seq ?_; all_goals refine nx_region ?_; all_goals (refine nx_op ?_; refine opw_yld (Yld.assign rfl) rfl ?_); all_goals refine nx_nil ?_; all_goals refine kp_code_normal ?_; all_goals refine nx_ret ?_; all_goals refine kp_blk_ret ?_; all_goals refine kp_code_ret ?_; all_goals (exact res1 (by first | exact .inl rfl | exact .inr rfl) Tryd.results146 rfl [] inferInstance ⟨by rw [nat_u8], rfl⟩)) | (all_goals refine nx_seq ?_; all_goals refine nx_region ?_; all_goals (refine nx_op ?_; refine opw_yld (Yld.move rfl) rfl ?_); all_goals (refine nx_op ?_; refine opw_yld (Yld.load rfl) rfl ?_); all_goals (refine nx_op ?_; refine opw_yld (Yld.cmp rfl rfl rfl) rfl ?_); all_goals (refine nx_op ?_; refine opw_yld (Yld.move rfl) rfl ?_); all_goals (first | refine nx_guard_n rfl (by first | rfl | assumption) rfl ?_ | refine nx_guard_u rfl rfl ?_ | ((first | refine nx_guard_y rfl (by first | rfl | assumption) ?_ | refine nx_guard rfl rfl (fun hc => ?_) (fun hc => ?_)); all_goals (first | (refine opw_yld (Yld.move rfl) rfl ?_) | skip))); all_goals (first | refine nx_guard_n rfl (by first | rfl | assumption) rfl ?_ | refine nx_guard_u rfl rfl ?_ | ((first | refine nx_guard_y rfl (by first | rfl | assumption) ?_ | refine nx_guard rfl rfl (fun hc => ?_) (fun hc => ?_)); all_goals (first | (refine opw_yld (Yld.lenString rfl) rfl ?_) | skip))); all_goals (first | refine nx_guard_n rfl (by first | rfl | assumption) rfl ?_ | refine nx_guard_u rfl rfl ?_ | ((first | refine nx_guard_y rfl (by first | rfl | assumption) ?_ | refine nx_guard rfl rfl (fun hc => ?_) (fun hc => ?_)); all_goals (first | (refine opw_yld (Yld.cmp rfl rfl rfl) rfl ?_) | skip))); all_goals (refine nx_op ?_; (first | refine opw_yld (Yld.pick_t rfl (by first | rfl | assumption) rfl) rfl ?_ | refine opw_yld (Yld.pick_f rfl (by first | rfl | assumption) rfl) rfl ?_)); all_goals (refine nx_op ?_; refine opw_yld (Yld.assign rfl) rfl ?_); all_goals refine nx_nil ?_; all_goals refine kp_code_normal ?_; all_goals (refine nx_cond rfl (fun hc => ?_) (fun hc => ?_)); all_goals (first | (exact Bool.noConfusion (hc.symm.trans (by first | rfl | assumption) : true = false)) | (exact Bool.noConfusion (hc.symm.trans (by first | rfl | assumption) : false = true)) | (all_goals refine nx_seq ?_; all_goals refine nx_region ?_; all_goals (refine nx_op ?_; refine opw_yld (Yld.move rfl) rfl ?_); all_goals (refine nx_op ?_; refine opw_yld (Yld.move rfl) rfl ?_); all_goals (refine nx_op ?_; fail "call 148: r9.2"); all_goals (refine nx_op ?_; refine opw_yld (Yld.assign rfl) rfl ?_); all_goals refine nx_nil ?_; all_goals refine kp_code_normal ?_; all_goals refine nx_ret ?_; all_goals refine kp_blk_ret ?_; all_goals refine kp_code_ret ?_; all_goals (exact res1 (by first | exact .inl rfl | exact .inr rfl) Tryd.results146 rfl [] inferInstance ⟨by rw [nat_u8], rfl⟩)) | (all_goals refine nx_skip ?_))))))))
    all_goals refine kp_blk_normal ?_
    all_goals refine kp_code_normal ?_
    all_goals refine nx_seq ?_
    all_goals refine nx_region ?_
    all_goals (refine nx_op ?_; refine opw_yld (Yld.move rfl) rfl ?_)
    all_goals (refine nx_op ?_; refine opw_yld (Yld.indexS rfl rfl (by assumption)) rfl ?_)
    all_goals (refine nx_op ?_; refine opw_yld (Yld.assign rfl) rfl ?_)
    all_goals refine nx_nil ?_
    all_goals refine kp_code_normal ?_
    all_goals refine nx_seq ?_
    all_goals refine nx_region ?_
    all_goals (refine nx_op ?_; refine opw_yld (Yld.move rfl) rfl ?_)
    all_goals (refine nx_op ?_; refine opw_yld (Yld.indexS rfl rfl (by assumption)) rfl ?_)
    all_goals (refine nx_op ?_; refine opw_yld (Yld.assign rfl) rfl ?_)
    all_goals refine nx_nil ?_
    all_goals refine kp_code_normal ?_
    all_goals refine nx_seq ?_
    all_goals refine nx_region ?_
    all_goals (refine nx_op ?_; refine opw_yld (Yld.assign rfl) rfl ?_)
    all_goals refine nx_nil ?_
    all_goals refine kp_code_normal ?_
    all_goals refine nx_seq ?_
    all_goals refine nx_region ?_
    all_goals (refine nx_op ?_; refine opw_yld (Yld.move rfl) rfl ?_)
    all_goals (refine nx_op ?_; refine opw_yld (Yld.lenString rfl) rfl ?_)
    all_goals (refine nx_op ?_; refine opw_yld (Yld.move rfl) rfl ?_)
    all_goals (refine nx_op ?_; (first | refine opw_yld (Yld.subI rfl rfl (by omega) (by omega)) rfl ?_ | refine opw_yld (Yld.sub rfl rfl) rfl ?_))
    all_goals (refine nx_op ?_; (first | refine opw_yld (Yld.addI rfl rfl (by omega) (by omega)) rfl ?_ | refine opw_yld (Yld.add rfl rfl) rfl ?_))
    all_goals (refine nx_op ?_; refine opw_yld (Yld.assign rfl) rfl ?_)
    all_goals refine nx_nil ?_
    all_goals refine kp_code_normal ?_
    all_goals refine nx_seq ?_
    all_goals refine nx_region ?_
    all_goals (refine nx_op ?_; refine opw_yld (Yld.assign rfl) rfl ?_)
    all_goals refine nx_nil ?_
    all_goals refine kp_code_normal ?_
    all_goals refine nx_seq ?_
    all_goals refine nx_block ?_
/-- strings.Index. -/
theorem sp140 (s : ByteArray) (c : UInt8) (F : Chunk) : Sp Tryd.prog 140 [.string s, .string ⟨#[c]⟩] F [] (fun v B => v = .int .i64 (Lib.indexByte (bs s) c) ∧ B = []) := by
  refine sp_enter Tryd.func140 rfl Tryd.ntmps140 rfl (fun g => ?_)
  simp only [argFr, List.nil_append, Nat.reduceAdd]
  all_goals refine nx_seq ?_
  all_goals refine nx_region ?_
  all_goals (refine nx_op ?_; refine opw_yld (Yld.assign rfl) rfl ?_)
  all_goals refine nx_nil ?_
  all_goals refine kp_code_normal ?_
  all_goals refine nx_seq ?_
  all_goals refine nx_region ?_
  all_goals (refine nx_op ?_; refine opw_yld (Yld.move rfl) rfl ?_)
  all_goals (refine nx_op ?_; refine opw_yld (Yld.move rfl) rfl ?_)
  all_goals (refine nx_op ?_; (refine opw_call rfl (sp146 _ _ _) inferInstance rfl ?_; rintro _ _ ⟨rfl, rfl⟩; simp only [List.nil_append]))
  all_goals (refine nx_op ?_; refine opw_yld (Yld.assign rfl) rfl ?_)
  all_goals refine nx_nil ?_
  all_goals refine kp_code_normal ?_
  all_goals refine nx_ret ?_
  all_goals (exact res1 (by first | exact .inl rfl | exact .inr rfl) Tryd.results140 rfl [] inferInstance ⟨rfl, rfl⟩)

/-- strings.Count. -/
theorem sp139 (s : ByteArray) (c : UInt8) (F : Chunk) : Sp Tryd.prog 139 [.string s, .string ⟨#[c]⟩] F [] (fun v B => v = .int .i64 ((bs s).count c : Nat) ∧ B = []) := by
  refine sp_enter Tryd.func139 rfl Tryd.ntmps139 rfl (fun g => ?_)
  simp only [argFr, List.nil_append, Nat.reduceAdd]
  all_goals refine nx_seq ?_
  all_goals refine nx_region ?_
  all_goals (refine nx_op ?_; refine opw_yld (Yld.assign rfl) rfl ?_)
  all_goals refine nx_nil ?_
  all_goals refine kp_code_normal ?_
  all_goals refine nx_seq ?_
  all_goals refine nx_seq ?_
  all_goals refine nx_region ?_
  all_goals (refine nx_op ?_; refine opw_yld (Yld.move rfl) rfl ?_)
  all_goals (refine nx_op ?_; refine opw_yld (Yld.lenString rfl) rfl ?_)
  all_goals (refine nx_op ?_; refine opw_yld (Yld.cmp rfl rfl rfl) rfl ?_)
  all_goals refine nx_nil ?_
  all_goals refine kp_code_normal ?_
  all_goals (refine nx_cond rfl (fun hc => ?_) (fun hc => ?_))
  all_goals (first | (exact Bool.noConfusion (hc.symm.trans (by first | rfl | assumption) : true = false)) | (exact Bool.noConfusion (hc.symm.trans (by first | rfl | assumption) : false = true)) | (all_goals refine nx_seq ?_; all_goals refine nx_region ?_; all_goals (refine nx_op ?_; refine opw_yld (Yld.move rfl) rfl ?_); all_goals (refine nx_op ?_; fail "call 143: r2.1"); all_goals (refine nx_op ?_; (first | refine opw_yld (Yld.addI rfl rfl (by omega) (by omega)) rfl ?_ | refine opw_yld (Yld.add rfl rfl) rfl ?_)); all_goals (refine nx_op ?_; refine opw_yld (Yld.assign rfl) rfl ?_); all_goals refine nx_nil ?_; all_goals refine kp_code_normal ?_; all_goals refine nx_ret ?_; all_goals refine kp_code_ret ?_; all_goals (exact res1 (by first | exact .inl rfl | exact .inr rfl) Tryd.results139 rfl [] inferInstance ⟨by rw [nat_u8]; rfl, rfl⟩)) | (all_goals refine nx_skip ?_))
  all_goals refine kp_code_normal ?_
  all_goals refine nx_seq ?_
  all_goals refine nx_seq ?_
  all_goals refine nx_region ?_
  all_goals (refine nx_op ?_; refine opw_yld (Yld.move rfl) rfl ?_)
  all_goals (refine nx_op ?_; refine opw_yld (Yld.lenString rfl) rfl ?_)
  all_goals (refine nx_op ?_; refine opw_yld (Yld.cmp rfl rfl rfl) rfl ?_)
  all_goals refine nx_nil ?_
  all_goals refine kp_code_normal ?_
  all_goals (refine nx_cond rfl (fun hc => ?_) (fun hc => ?_))
  all_goals (first | (exact Bool.noConfusion (hc.symm.trans (by first | rfl | assumption) : true = false)) | (exact Bool.noConfusion (hc.symm.trans (by first | rfl | assumption) : false = true)) | (all_goals refine nx_seq ?_; all_goals refine nx_region ?_; all_goals (refine nx_op ?_; refine opw_yld (Yld.move rfl) rfl ?_); all_goals (refine nx_op ?_; refine opw_yld (Yld.move rfl) rfl ?_); all_goals (refine nx_op ?_; refine opw_yld (Yld.indexS rfl rfl rfl) rfl ?_); all_goals (refine nx_op ?_; (refine opw_yld (Yld.ext ext145 rfl (fun w _ => Lib.run_countString s _ w)) rfl ?_)); all_goals (refine nx_op ?_; refine opw_yld (Yld.assign rfl) rfl ?_); all_goals refine nx_nil ?_; all_goals refine kp_code_normal ?_; all_goals refine nx_ret ?_; all_goals refine kp_code_ret ?_; all_goals (exact res1 (by first | exact .inl rfl | exact .inr rfl) Tryd.results139 rfl [] inferInstance ⟨by rw [nat_u8]; rfl, rfl⟩)) | (all_goals refine nx_skip ?_))
  all_goals refine kp_code_normal ?_
  all_goals refine nx_seq ?_
  all_goals refine nx_region ?_
  all_goals (refine nx_op ?_; refine opw_yld (Yld.assign rfl) rfl ?_)
  all_goals refine nx_nil ?_
  all_goals refine kp_code_normal ?_
  all_goals refine nx_block ?_

/-- What strings.Split hands back: a new slice of just the pieces. -/
def SplitPost (s : ByteArray) (c : UInt8) (v : Value) (B : List Chunk) : Prop :=
  ∃ (b : Nat) (ps : List ByteArray), v = .slice (some ⟨b, 0, none⟩) ps.length ps.length ∧ B = [[(b, .cells (ps.map Value.string).toArray 9 (0, 0))]] ∧ ps.map bs = splitB c (bs s)

theorem drop_put (D : List Value) (z x : Value) (r : List Value) : (D ++ z :: r).set D.length x = D ++ x :: r := by simp
theorem zeros_cons (z : Value) (k : Nat) : zerosL [z] (k + 1) = z :: zerosL [z] k := rfl

set_option maxHeartbeats 400000 in
theorem sp128 (s : ByteArray) (c : UInt8) (F : Chunk) (hs : s.size < 2147483648) : Sp Tryd.prog 128 [.string s, .string ⟨#[c]⟩, .int .i64 0, .int .i64 (-1)] F [] (SplitPost s c) := by
  have hcnt : (bs s).count c ≤ s.size := by rw [← bs_len]; exact List.count_le_length
  generalize hn : (bs s).count c = n at hcnt
  refine sp_enter Tryd.func128 rfl Tryd.ntmps128 rfl (fun g => ?_)
  simp only [argFr, List.nil_append, Nat.reduceAdd]
  have hmin : (if (s.size : Int) + 1 < (n : Int) + 1 then (s.size : Int) + 1 else (n : Int) + 1) = (n : Int) + 1 := by rw [if_neg (by omega)]
  all_goals refine nx_seq ?_
  all_goals refine nx_region ?_
  all_goals (refine nx_op ?_; refine opw_yld (Yld.assign rfl) rfl ?_)
  all_goals refine nx_nil ?_
  all_goals refine kp_code_normal ?_
  all_goals refine nx_seq ?_
  all_goals refine nx_seq ?_
  all_goals refine nx_region ?_
  all_goals (refine nx_op ?_; refine opw_yld (Yld.move rfl) rfl ?_)
  all_goals (refine nx_op ?_; refine opw_yld (Yld.cmp rfl rfl rfl) rfl ?_)
  all_goals refine nx_nil ?_
  all_goals refine kp_code_normal ?_
  all_goals (refine nx_cond rfl (fun hc => ?_) (fun hc => ?_))
  all_goals (first | (exact Bool.noConfusion (hc.symm.trans (by first | rfl | assumption) : true = false)) | (exact Bool.noConfusion (hc.symm.trans (by first | rfl | assumption) : false = true)) | (all_goals refine nx_seq ?_; all_goals refine nx_region ?_; all_goals (refine nx_op ?_; refine opw_yld (Yld.assign rfl) rfl ?_); all_goals refine nx_nil ?_; all_goals refine kp_code_normal ?_; all_goals refine nx_ret ?_; all_goals refine kp_code_ret ?_) | (all_goals refine nx_skip ?_))
  all_goals refine kp_code_normal ?_
  all_goals refine nx_seq ?_
  all_goals refine nx_seq ?_
  all_goals refine nx_region ?_
  all_goals (refine nx_op ?_; refine opw_yld (Yld.move rfl) rfl ?_)
  all_goals (refine nx_op ?_; refine opw_yld (Yld.eqS rfl rfl) rfl ?_)
  all_goals refine nx_nil ?_
  all_goals refine kp_code_normal ?_
  all_goals (refine nx_cond rfl (fun hc => ?_) (fun hc => ?_))
  all_goals (first | (exact Bool.noConfusion (hc.symm.trans (by first | rfl | assumption) : true = false)) | (exact Bool.noConfusion (hc.symm.trans (by first | rfl | assumption) : false = true)) | (all_goals refine nx_seq ?_; all_goals refine nx_region ?_; all_goals (refine nx_op ?_; refine opw_yld (Yld.move rfl) rfl ?_); all_goals (refine nx_op ?_; refine opw_yld (Yld.move rfl) rfl ?_); all_goals (refine nx_op ?_; fail "call 138: r4.2"); all_goals (refine nx_op ?_; refine opw_yld (Yld.assign rfl) rfl ?_); all_goals refine nx_nil ?_; all_goals refine kp_code_normal ?_; all_goals refine nx_ret ?_; all_goals refine kp_code_ret ?_) | (all_goals refine nx_skip ?_))
  all_goals refine kp_code_normal ?_
  all_goals refine nx_seq ?_
  all_goals refine nx_seq ?_
  all_goals refine nx_region ?_
  all_goals (refine nx_op ?_; refine opw_yld (Yld.move rfl) rfl ?_)
  all_goals (refine nx_op ?_; refine opw_yld (Yld.cmp rfl rfl rfl) rfl ?_)
  all_goals refine nx_nil ?_
  all_goals refine kp_code_normal ?_
  all_goals (refine nx_cond rfl (fun hc => ?_) (fun hc => ?_))
  all_goals (first | (exact Bool.noConfusion (hc.symm.trans (by first | rfl | assumption) : true = false)) | (exact Bool.noConfusion (hc.symm.trans (by first | rfl | assumption) : false = true)) | (all_goals refine nx_region ?_; all_goals (refine nx_op ?_; refine opw_yld (Yld.move rfl) rfl ?_); all_goals (refine nx_op ?_; refine opw_yld (Yld.move rfl) rfl ?_); all_goals (refine nx_op ?_; (refine opw_call rfl (sp139 _ _ _) inferInstance rfl ?_; rintro _ _ ⟨rfl, rfl⟩; simp only [List.nil_append, hn])); all_goals (refine nx_op ?_; (first | refine opw_yld (Yld.addI rfl rfl (by omega) (by omega)) rfl ?_ | refine opw_yld (Yld.add rfl rfl) rfl ?_)); all_goals (refine nx_op ?_; refine opw_yld (Yld.assign rfl) rfl ?_); all_goals refine nx_nil ?_) | (all_goals refine nx_skip ?_))
  all_goals refine kp_code_normal ?_
  all_goals refine nx_seq ?_
  all_goals refine nx_region ?_
  all_goals (refine nx_op ?_; refine opw_yld (Yld.move rfl) rfl ?_)
  all_goals (refine nx_op ?_; refine opw_yld (Yld.move rfl) rfl ?_)
  all_goals (refine nx_op ?_; refine opw_yld (Yld.lenString rfl) rfl ?_)
  all_goals (refine nx_op ?_; (first | refine opw_yld (Yld.addI rfl rfl (by omega) (by omega)) rfl ?_ | refine opw_yld (Yld.add rfl rfl) rfl ?_))
  all_goals (refine nx_op ?_; refine opw_yld (Yld.min2 rfl rfl) rfl ?_; rw [hmin])
  all_goals (refine nx_op ?_; refine opw_yld (Yld.assign rfl) rfl ?_)
  all_goals refine nx_nil ?_
  all_goals refine kp_code_normal ?_
  all_goals refine nx_seq ?_
  all_goals refine nx_region ?_
  all_goals (refine nx_op ?_; refine opw_yld (Yld.move rfl) rfl ?_)
  all_goals (refine nx_op ?_; refine opw_alc (Alc.makeSlice (by rfl) rfl rfl (by omega) (by omega) (by omega)) rfl (fun b31 => ?_))
  all_goals (refine nx_op ?_; refine opw_yld (Yld.assign rfl) rfl ?_)
  all_goals refine nx_nil ?_
  all_goals refine kp_code_normal ?_
  all_goals refine nx_seq ?_
  all_goals refine nx_region ?_
  all_goals (refine nx_op ?_; refine opw_yld (Yld.move rfl) rfl ?_)
  all_goals (refine nx_op ?_; refine opw_yld (Yld.subI rfl rfl (by omega) (by omega)) rfl ?_; rw [show (n : Int) + 1 - 1 = n from by omega])
  all_goals (refine nx_op ?_; refine opw_yld (Yld.assign rfl) rfl ?_)
  all_goals refine nx_nil ?_
  all_goals refine kp_code_normal ?_
  all_goals refine nx_seq ?_
  all_goals refine nx_region ?_
  all_goals (refine nx_op ?_; refine opw_yld (Yld.assign rfl) rfl ?_)
  all_goals refine nx_nil ?_
  all_goals refine kp_code_normal ?_
  all_goals refine nx_seq ?_
  all_goals refine nx_block ?_
  have hs1 : (ByteArray.mk #[c]).size = 1 := rfl
  refine nx_loop (fun fr L m => ∃ (b i : Nat) (D : List ByteArray) (s' : ByteArray), i = D.length ∧ i ≤ n ∧ m = n - i ∧ (bs s').count c = n - i ∧ D.map bs ++ splitB c (bs s') = splitB c (bs s) ∧ s'.size ≤ s.size ∧
      fr = [(0, .string s'), (1, .string ⟨#[c]⟩), (2, .int .i64 0), (3, .int .i64 n), (9, .slice (some ⟨b, 0, none⟩) (n + 1) (n + 1)), (10, .int .i64 i)] ∧
      L = [[(b, .cells (D.map Value.string ++ zerosL [Value.string ⟨#[]⟩] (n + 1 - i)).toArray 9 (0, 0))], F])
    (L' := [[(b31, .cells (zerosL [Value.string ⟨#[]⟩] (n + 1)).toArray 9 (0, 0))], F]) ⟨b31, 0, [], s, rfl, by omega, rfl, by simpa using hn, by simp, Nat.le_refl _, rfl, rfl⟩ (by repeat' (first | exact .nil | refine .cons rfl ?_)) inferInstance ?_
  rintro fr L m ⟨b, i, D, s', rfl, hi, rfl, hc, hd, hss, rfl, rfl⟩
  have hp : ∀ v, PutL (D.map Value.string ++ zerosL [Value.string ⟨#[]⟩] (n + 1 - D.length)) D.length v (D.map Value.string ++ v :: zerosL [Value.string ⟨#[]⟩] (n - D.length)) := fun v => by
    have e : n + 1 - D.length = (n - D.length) + 1 := by omega
    rw [e, zeros_cons]
    have h2 := drop_put (D.map Value.string) (.string ⟨#[]⟩) v (zerosL [Value.string ⟨#[]⟩] (n - D.length))
    rw [List.length_map] at h2
    exact ⟨by simp, h2⟩
  by_cases hlt : D.length < n
  · obtain ⟨k, hk1, hk2, hk3, hk4⟩ := splitB_some c (bs s') (by omega)
    have hb : decide ((D.length : Int) < (n : Int)) = true := by simp; omega
    have hb0 : decide ((k : Int) < 0) = false := by simp
    rw [bs_len] at hk2
    all_goals refine nx_seq ?_
    all_goals refine nx_seq ?_
    all_goals refine nx_region ?_
    all_goals (refine nx_op ?_; refine opw_yld (Yld.move rfl) rfl ?_)
    all_goals (refine nx_op ?_; refine opw_yld (Yld.move rfl) rfl ?_)
    all_goals (refine nx_op ?_; refine opw_yld (Yld.cmp rfl rfl rfl) rfl ?_)
    all_goals refine nx_nil ?_
    all_goals refine kp_code_normal ?_
    all_goals (refine nx_cond rfl (fun hc => ?_) (fun hc => ?_))
    all_goals (first | (exact Bool.noConfusion (hc.symm.trans (by first | rfl | assumption) : true = false)) | (exact Bool.noConfusion (hc.symm.trans (by first | rfl | assumption) : false = true)) | (all_goals refine nx_skip ?_) | (all_goals refine nx_exit ?_; all_goals refine kp_code_exit ?_; all_goals refine kp_loop_exit ?_; all_goals refine kp_blk_exit rfl ?_; all_goals refine kp_code_normal ?_; all_goals refine nx_seq ?_; all_goals refine nx_region ?_; all_goals (refine nx_op ?_; refine opw_yld (Yld.move rfl) rfl ?_); all_goals (refine nx_op ?_; refine opw_yld (Yld.move rfl) rfl ?_); all_goals (refine nx_op ?_; refine opw_yld (Yld.move rfl) rfl ?_); all_goals (refine nx_op ?_; refine opw_yld (Yld.indexAddr rfl rfl (by omega)) rfl ?_); all_goals (refine nx_op ?_; refine opw_store rfl rfl rfl ?_); all_goals refine nx_nil ?_; all_goals refine kp_code_normal ?_; all_goals refine nx_seq ?_; all_goals refine nx_region ?_; all_goals (refine nx_op ?_; refine opw_yld (Yld.move rfl) rfl ?_); all_goals (refine nx_op ?_; refine opw_yld (Yld.move rfl) rfl ?_); all_goals (refine nx_op ?_; (first | refine opw_yld (Yld.addI rfl rfl (by omega) (by omega)) rfl ?_ | refine opw_yld (Yld.add rfl rfl) rfl ?_)); all_goals (refine nx_op ?_; refine opw_yld (Yld.sliceH rfl rfl (by omega)) rfl ?_); all_goals (refine nx_op ?_; refine opw_yld (Yld.assign rfl) rfl ?_); all_goals refine nx_nil ?_; all_goals refine kp_code_normal ?_; all_goals refine nx_ret ?_; all_goals (skip)))
    all_goals refine kp_code_normal ?_
    all_goals refine nx_block ?_
    all_goals refine nx_seq ?_
    all_goals refine nx_region ?_
    all_goals (refine nx_op ?_; refine opw_yld (Yld.move rfl) rfl ?_)
    all_goals (refine nx_op ?_; refine opw_yld (Yld.move rfl) rfl ?_)
    all_goals (refine nx_op ?_; (refine opw_call rfl (sp140 _ _ _) inferInstance rfl ?_; rintro _ _ ⟨rfl, rfl⟩; simp only [List.nil_append, hk1]))
    all_goals (refine nx_op ?_; refine opw_yld (Yld.assign rfl) rfl ?_)
    all_goals refine nx_nil ?_
    all_goals refine kp_code_normal ?_
    all_goals refine nx_seq ?_
    all_goals refine nx_seq ?_
    all_goals refine nx_region ?_
    all_goals (refine nx_op ?_; refine opw_yld (Yld.move rfl) rfl ?_)
    all_goals (refine nx_op ?_; refine opw_yld (Yld.cmp rfl rfl rfl) rfl ?_)
    all_goals refine nx_nil ?_
    all_goals refine kp_code_normal ?_
    all_goals (refine nx_cond rfl (fun hc => ?_) (fun hc => ?_))
    all_goals (first | (exact Bool.noConfusion (hc.symm.trans (by first | rfl | assumption) : true = false)) | (exact Bool.noConfusion (hc.symm.trans (by first | rfl | assumption) : false = true)) | (all_goals refine nx_exit ?_; all_goals refine kp_code_exit ?_; all_goals refine kp_blk_other rfl ?_; all_goals refine kp_loop_exit ?_; all_goals refine kp_blk_exit rfl ?_; all_goals refine kp_code_normal ?_; all_goals refine nx_seq ?_; all_goals refine nx_region ?_; all_goals (refine nx_op ?_; refine opw_yld (Yld.move rfl) rfl ?_); all_goals (refine nx_op ?_; refine opw_yld (Yld.move rfl) rfl ?_); all_goals (refine nx_op ?_; refine opw_yld (Yld.move rfl) rfl ?_); all_goals (refine nx_op ?_; refine opw_yld (Yld.indexAddr rfl rfl (by omega)) rfl ?_); all_goals (refine nx_op ?_; refine opw_store rfl rfl rfl ?_); all_goals refine nx_nil ?_; all_goals refine kp_code_normal ?_; all_goals refine nx_seq ?_; all_goals refine nx_region ?_; all_goals (refine nx_op ?_; refine opw_yld (Yld.move rfl) rfl ?_); all_goals (refine nx_op ?_; refine opw_yld (Yld.move rfl) rfl ?_); all_goals (refine nx_op ?_; (first | refine opw_yld (Yld.addI rfl rfl (by omega) (by omega)) rfl ?_ | refine opw_yld (Yld.add rfl rfl) rfl ?_)); all_goals (refine nx_op ?_; refine opw_yld (Yld.sliceH rfl rfl (by omega)) rfl ?_); all_goals (refine nx_op ?_; refine opw_yld (Yld.assign rfl) rfl ?_); all_goals refine nx_nil ?_; all_goals refine kp_code_normal ?_; all_goals refine nx_ret ?_; all_goals (skip)) | (all_goals refine nx_skip ?_))
    all_goals refine kp_code_normal ?_
    all_goals refine nx_seq ?_
    all_goals refine nx_region ?_
    all_goals (refine nx_op ?_; refine opw_yld (Yld.move rfl) rfl ?_)
    all_goals (refine nx_op ?_; refine opw_yld (Yld.move rfl) rfl ?_)
    all_goals (refine nx_op ?_; refine opw_yld (Yld.move rfl) rfl ?_)
    all_goals (refine nx_op ?_; refine opw_yld (Yld.move rfl) rfl ?_)
    all_goals (refine nx_op ?_; refine opw_yld (Yld.move rfl) rfl ?_)
    all_goals (refine nx_op ?_; (first | refine opw_yld (Yld.addI rfl rfl (by omega) (by omega)) rfl ?_ | refine opw_yld (Yld.add rfl rfl) rfl ?_))
    all_goals (refine nx_op ?_; refine opw_yld (Yld.cutH rfl rfl (by omega)) rfl ?_)
    all_goals (refine nx_op ?_; refine opw_yld (Yld.indexAddr rfl rfl (by omega)) rfl ?_)
    all_goals (refine nx_op ?_; refine opw_store rfl rfl rfl ?_)
    all_goals refine nx_nil ?_
    all_goals refine kp_code_normal ?_
    all_goals refine nx_seq ?_
    all_goals refine nx_region ?_
    all_goals (refine nx_op ?_; refine opw_yld (Yld.move rfl) rfl ?_)
    all_goals (refine nx_op ?_; refine opw_yld (Yld.move rfl) rfl ?_)
    all_goals (refine nx_op ?_; refine opw_yld (Yld.move rfl) rfl ?_)
    all_goals (refine nx_op ?_; refine opw_yld (Yld.lenString rfl) rfl ?_)
    all_goals (refine nx_op ?_; (first | refine opw_yld (Yld.addI rfl rfl (by omega) (by omega)) rfl ?_ | refine opw_yld (Yld.add rfl rfl) rfl ?_))
    all_goals (refine nx_op ?_; refine opw_yld (Yld.cutL rfl rfl (by omega)) rfl ?_)
    all_goals (refine nx_op ?_; refine opw_yld (Yld.assign rfl) rfl ?_)
    all_goals refine nx_nil ?_
    all_goals refine kp_code_normal ?_
    all_goals refine nx_region ?_
    all_goals (refine nx_op ?_; refine opw_yld (Yld.move rfl) rfl ?_)
    all_goals (refine nx_op ?_; (first | refine opw_yld (Yld.addI rfl rfl (by omega) (by omega)) rfl ?_ | refine opw_yld (Yld.add rfl rfl) rfl ?_))
    all_goals (refine nx_op ?_; refine opw_yld (Yld.assign rfl) rfl ?_)
    all_goals refine nx_nil ?_
    all_goals refine kp_blk_normal ?_
    · refine nx_round (L' := [[(b, .cells (D.map Value.string ++ Value.string (s'.extract 0 (k + 0)) :: zerosL [Value.string ⟨#[]⟩] (n - D.length)).toArray 9 (0, 0))], F])
        ⟨b, D.length + 1, D ++ [s'.extract 0 (k + 0)], s'.extract (k + 1) s'.size, by simp, by omega, rfl, ?_, ?_, ?_, rfl, ?_⟩ (by omega) (by repeat' (first | exact .nil | refine .cons rfl ?_)) inferInstance
      · rw [bs_extract, List.take_of_length_le (by simp)]; omega
      · rw [← hd, hk3, bs_extract, List.take_of_length_le (by simp)]
        simp [bs_extract]
      · simp; omega
      · have : n + 1 - (D.length + 1) = n - D.length := by omega
        simp [this]
  · obtain rfl : n = D.length := by omega
    have hb : decide ((D.length : Int) < (D.length : Int)) = false := by simp
    have hsp := splitB_none c (bs s') (by omega)
    all_goals refine nx_seq ?_
    all_goals refine nx_seq ?_
    all_goals refine nx_region ?_
    all_goals (refine nx_op ?_; refine opw_yld (Yld.move rfl) rfl ?_)
    all_goals (refine nx_op ?_; refine opw_yld (Yld.move rfl) rfl ?_)
    all_goals (refine nx_op ?_; refine opw_yld (Yld.cmp rfl rfl rfl) rfl ?_)
    all_goals refine nx_nil ?_
    all_goals refine kp_code_normal ?_
    all_goals (refine nx_cond rfl (fun hc => ?_) (fun hc => ?_))
    all_goals (first | (exact Bool.noConfusion (hc.symm.trans (by first | rfl | assumption) : true = false)) | (exact Bool.noConfusion (hc.symm.trans (by first | rfl | assumption) : false = true)) | (all_goals refine nx_skip ?_) | (all_goals refine nx_exit ?_; all_goals refine kp_code_exit ?_; all_goals refine kp_loop_exit ?_; all_goals refine kp_blk_exit rfl ?_; all_goals refine kp_code_normal ?_; all_goals refine nx_seq ?_; all_goals refine nx_region ?_; all_goals (refine nx_op ?_; refine opw_yld (Yld.move rfl) rfl ?_); all_goals (refine nx_op ?_; refine opw_yld (Yld.move rfl) rfl ?_); all_goals (refine nx_op ?_; refine opw_yld (Yld.move rfl) rfl ?_); all_goals (refine nx_op ?_; refine opw_yld (Yld.indexAddr rfl rfl (by omega)) rfl ?_); all_goals (refine nx_op ?_; refine opw_store rfl rfl rfl ?_); all_goals refine nx_nil ?_; all_goals refine kp_code_normal ?_; all_goals refine nx_seq ?_; all_goals refine nx_region ?_; all_goals (refine nx_op ?_; refine opw_yld (Yld.move rfl) rfl ?_); all_goals (refine nx_op ?_; refine opw_yld (Yld.move rfl) rfl ?_); all_goals (refine nx_op ?_; (first | refine opw_yld (Yld.addI rfl rfl (by omega) (by omega)) rfl ?_ | refine opw_yld (Yld.add rfl rfl) rfl ?_)); all_goals (refine nx_op ?_; refine opw_yld (Yld.sliceH rfl rfl (by omega)) rfl ?_); all_goals (refine nx_op ?_; refine opw_yld (Yld.assign rfl) rfl ?_); all_goals refine nx_nil ?_; all_goals refine kp_code_normal ?_; all_goals refine nx_ret ?_; all_goals (simp only [Nat.sub_self, zerosL]; exact res1 (by first | exact .inl rfl | exact .inr rfl) Tryd.results128 rfl [[(b, .cells (D.map Value.string ++ [Value.string s']).toArray 9 (0, 0))]] inferInstance ⟨b, D ++ [s'], by simp, by simp, by rw [← hd, hsp]; simp⟩)))
    all_goals refine kp_code_normal ?_
    all_goals refine nx_block ?_
    all_goals refine nx_seq ?_
    all_goals refine nx_region ?_
    all_goals (refine nx_op ?_; refine opw_yld (Yld.move rfl) rfl ?_)
    all_goals (refine nx_op ?_; refine opw_yld (Yld.move rfl) rfl ?_)
    all_goals (refine nx_op ?_; (refine opw_call rfl (sp140 _ _ _) inferInstance rfl ?_; rintro _ _ ⟨rfl, rfl⟩; simp only [List.nil_append]))
    all_goals (refine nx_op ?_; refine opw_yld (Yld.assign rfl) rfl ?_)
    all_goals refine nx_nil ?_
    all_goals refine kp_code_normal ?_
    all_goals refine nx_seq ?_
    all_goals refine nx_seq ?_
    all_goals refine nx_region ?_
    all_goals (refine nx_op ?_; refine opw_yld (Yld.move rfl) rfl ?_)
    all_goals (refine nx_op ?_; refine opw_yld (Yld.cmp rfl rfl rfl) rfl ?_)
    all_goals refine nx_nil ?_
    all_goals refine kp_code_normal ?_
    all_goals (refine nx_cond rfl (fun hc => ?_) (fun hc => ?_))
    all_goals (first | (exact Bool.noConfusion (hc.symm.trans (by first | rfl | assumption) : true = false)) | (exact Bool.noConfusion (hc.symm.trans (by first | rfl | assumption) : false = true)) | (all_goals refine nx_exit ?_; all_goals refine kp_code_exit ?_; all_goals refine kp_blk_other rfl ?_; all_goals refine kp_loop_exit ?_; all_goals refine kp_blk_exit rfl ?_; all_goals refine kp_code_normal ?_; all_goals refine nx_seq ?_; all_goals refine nx_region ?_; all_goals (refine nx_op ?_; refine opw_yld (Yld.move rfl) rfl ?_); all_goals (refine nx_op ?_; refine opw_yld (Yld.move rfl) rfl ?_); all_goals (refine nx_op ?_; refine opw_yld (Yld.move rfl) rfl ?_); all_goals (refine nx_op ?_; refine opw_yld (Yld.indexAddr rfl rfl (by omega)) rfl ?_); all_goals (refine nx_op ?_; refine opw_store rfl rfl rfl ?_); all_goals refine nx_nil ?_; all_goals refine kp_code_normal ?_; all_goals refine nx_seq ?_; all_goals refine nx_region ?_; all_goals (refine nx_op ?_; refine opw_yld (Yld.move rfl) rfl ?_); all_goals (refine nx_op ?_; refine opw_yld (Yld.move rfl) rfl ?_); all_goals (refine nx_op ?_; (first | refine opw_yld (Yld.addI rfl rfl (by omega) (by omega)) rfl ?_ | refine opw_yld (Yld.add rfl rfl) rfl ?_)); all_goals (refine nx_op ?_; refine opw_yld (Yld.sliceH rfl rfl (by omega)) rfl ?_); all_goals (refine nx_op ?_; refine opw_yld (Yld.assign rfl) rfl ?_); all_goals refine nx_nil ?_; all_goals refine kp_code_normal ?_; all_goals refine nx_ret ?_; all_goals (simp only [Nat.sub_self, zerosL]; exact res1 (by first | exact .inl rfl | exact .inr rfl) Tryd.results128 rfl [[(b, .cells (D.map Value.string ++ [Value.string s']).toArray 9 (0, 0))]] inferInstance ⟨b, D ++ [s'], by simp, by simp, by rw [← hd, hsp]; simp⟩)) | (all_goals refine nx_skip ?_))
    all_goals refine kp_code_normal ?_
    all_goals refine nx_seq ?_
    all_goals refine nx_region ?_
    all_goals (refine nx_op ?_; refine opw_yld (Yld.move rfl) rfl ?_)
    all_goals (refine nx_op ?_; refine opw_yld (Yld.move rfl) rfl ?_)
    all_goals (refine nx_op ?_; refine opw_yld (Yld.move rfl) rfl ?_)
    all_goals (refine nx_op ?_; refine opw_yld (Yld.move rfl) rfl ?_)
    all_goals (refine nx_op ?_; refine opw_yld (Yld.move rfl) rfl ?_)
    all_goals (refine nx_op ?_; (first | refine opw_yld (Yld.addI rfl rfl (by omega) (by omega)) rfl ?_ | refine opw_yld (Yld.add rfl rfl) rfl ?_))
    all_goals (refine nx_op ?_; refine opw_yld (Yld.cutH rfl rfl (by omega)) rfl ?_)
    all_goals (refine nx_op ?_; refine opw_yld (Yld.indexAddr rfl rfl (by omega)) rfl ?_)
    all_goals (refine nx_op ?_; refine opw_store rfl rfl rfl ?_)
    all_goals refine nx_nil ?_
    all_goals refine kp_code_normal ?_
    all_goals refine nx_seq ?_
    all_goals refine nx_region ?_
    all_goals (refine nx_op ?_; refine opw_yld (Yld.move rfl) rfl ?_)
    all_goals (refine nx_op ?_; refine opw_yld (Yld.move rfl) rfl ?_)
    all_goals (refine nx_op ?_; refine opw_yld (Yld.move rfl) rfl ?_)
    all_goals (refine nx_op ?_; refine opw_yld (Yld.lenString rfl) rfl ?_)
    all_goals (refine nx_op ?_; (first | refine opw_yld (Yld.addI rfl rfl (by omega) (by omega)) rfl ?_ | refine opw_yld (Yld.add rfl rfl) rfl ?_))
    all_goals (refine nx_op ?_; refine opw_yld (Yld.cutL rfl rfl (by omega)) rfl ?_)
    all_goals (refine nx_op ?_; refine opw_yld (Yld.assign rfl) rfl ?_)
    all_goals refine nx_nil ?_
    all_goals refine kp_code_normal ?_
    all_goals refine nx_region ?_
    all_goals (refine nx_op ?_; refine opw_yld (Yld.move rfl) rfl ?_)
    all_goals (refine nx_op ?_; (first | refine opw_yld (Yld.addI rfl rfl (by omega) (by omega)) rfl ?_ | refine opw_yld (Yld.add rfl rfl) rfl ?_))
    all_goals (refine nx_op ?_; refine opw_yld (Yld.assign rfl) rfl ?_)
    all_goals refine nx_nil ?_
    all_goals refine kp_blk_normal ?_

/-- strings.Split. -/
theorem sp90 (s : ByteArray) (c : UInt8) (F : Chunk) (hs : s.size < 2147483648) : Sp Tryd.prog 90 [.string s, .string ⟨#[c]⟩] F [] (SplitPost s c) := by
  refine sp_enter Tryd.func90 rfl Tryd.ntmps90 rfl (fun g => ?_)
  simp only [argFr, List.nil_append, Nat.reduceAdd]
  all_goals refine nx_seq ?_
  all_goals refine nx_region ?_
  all_goals (refine nx_op ?_; refine opw_yld (Yld.assign rfl) rfl ?_)
  all_goals refine nx_nil ?_
  all_goals refine kp_code_normal ?_
  all_goals refine nx_seq ?_
  all_goals refine nx_region ?_
  all_goals (refine nx_op ?_; refine opw_yld (Yld.move rfl) rfl ?_)
  all_goals (refine nx_op ?_; refine opw_yld (Yld.move rfl) rfl ?_)
  all_goals (refine nx_op ?_; (refine opw_call rfl (sp128 _ _ _ hs) inferInstance rfl ?_; rintro _ _ ⟨b, ps, rfl, rfl, hps⟩; simp only [List.nil_append, List.cons_append]))
  all_goals (refine nx_op ?_; refine opw_yld (Yld.assign rfl) rfl ?_)
  all_goals refine nx_nil ?_
  all_goals refine kp_code_normal ?_
  all_goals refine nx_ret ?_
  all_goals (exact res1 (by first | exact .inl rfl | exact .inr rfl) Tryd.results90 rfl [[(b, .cells (ps.map Value.string).toArray 9 (0, 0))]] inferInstance ⟨b, ps, rfl, rfl, hps⟩)
end Go.Proofs.YtdobndclhbkooaaDoor
