/- The walker: the last name. Conditions: the tree lies in the memory that is kept. -/
import Derived.Test.YtdobndclhbkooaaDoorWk3
namespace Go.Proofs.YtdobndclhbkooaaDoor
open Go Go.SL
set_option maxRecDepth 100000
set_option linter.unusedVariables false

def lastB (A : Fs) (isDir : Bool) (f : Fo) (k : Nat) : WR := if f.2.2 = 0 ∧ isDir = true then .error 2 else if isDir = true ∧ kindA A f.2.2 ≠ 2 then .error 20 else .ok (f, k)
def lastA (A : Fs) (R : Rec) (dir : Int) (nm : List UInt8) (fol isDir : Bool) (fuel : Nat) : WR :=
  if (findA A dir nm).2 = 2 ∧ isDir = false ∧ kindA A dir = 2 then .ok ((dir, nm, 0), fuel)
  else if (findA A dir nm).2 ≠ 0 then .error (findA A dir nm).2
  else if kindA A (findA A dir nm).1 = 3 ∧ (fol = true ∨ isDir = true) then
    (match followA A R dir (findA A dir nm).1 fuel with
    | .error e => .error e
    | .ok (f, k) => lastB A isDir f k)
  else if isDir = true ∧ kindA A (findA A dir nm).1 ≠ 2 then .error 20 else .ok ((dir, nm, (findA A dir nm).1), fuel)

section
variable {F : Chunk} {T : Tr} {N : Nat} {R : Rec} {b : Nat}
theorem sp93 (hR : RecOk T N R) (hT : InT F T) (dir : Int) (nm : ByteArray) (fol isDir : Bool) (fuel : Nat) (hf : fuel < N + 1) (hN : N + 1 ≤ 41) :
    Sp Tryd.prog 93 [.pointer (some ⟨b, 0, none⟩), .string nm, .bool fol, .bool isDir] F [wc b T.t dir (40 - (fuel : Int))] (WPost b T.t fuel (lastA (abs T.S) R dir (bs nm) fol isDir fuel)) := by
  generalize hfd : findA (abs T.S) dir (bs nm) = q
  obtain ⟨n, e⟩ := q
  refine sp_enter Tryd.func93 rfl Tryd.ntmps93 rfl (fun g => ?_)
  simp only [argFr, List.nil_append, List.cons_append, Nat.reduceAdd]
  simp only [wc]
  by_cases he : e = 0
  case neg =>
    have hb : (e != 0) = true := by simpa using he
    by_cases h2 : e = 2 ∧ isDir = false ∧ kindA (abs T.S) dir = 2
    · obtain ⟨rfl, rfl, hk⟩ := h2
      have hb2 : (kindA (abs T.S) dir == 2) = true := by simpa using hk
      have hr : lastA (abs T.S) R dir (bs nm) fol false fuel = .ok ((dir, bs nm, 0), fuel) := by simp [lastA, hfd, hk]
      rw [hr]
      all_goals refine nx_seq ?_
      all_goals refine nx_region ?_
      all_goals (refine nx_op ?_; refine opw_alc Alc.alloc rfl (fun b8 => ?_))
      all_goals (refine nx_op ?_; refine opw_yld (Yld.assign rfl) rfl ?_)
      all_goals refine nx_nil ?_
      all_goals refine kp_code_normal ?_
      all_goals refine nx_seq ?_
      all_goals refine nx_draw (fun i => match i with | 3 => .read | 7 => .read | 9 => .hard | _ => .stab) [] [0, 1, 2, 3, 4, 5, 6, 7, 8, 9, 10, 11, 12, 13, 14] rfl (by kernel_rfl) inferInstance ?_
      all_goals (refine wk_stab rfl rfl (Yld.move rfl) rfl ?_)
      all_goals (refine wk_stab rfl rfl (Yld.nilCheck rfl) rfl ?_)
      all_goals (refine wk_stab rfl rfl (Yld.fieldAddr rfl) rfl ?_)
      all_goals (refine wk_read rfl rfl (Yld.load rfl) rfl ?_)
      all_goals (refine wk_stab rfl rfl (Yld.move rfl) rfl ?_)
      all_goals (refine wk_stab rfl rfl (Yld.nilCheck rfl) rfl ?_)
      all_goals (refine wk_stab rfl rfl (Yld.fieldAddr rfl) rfl ?_)
      all_goals (refine wk_read rfl rfl (Yld.load rfl) rfl ?_)
      all_goals (refine wk_stab rfl rfl (Yld.move rfl) rfl ?_)
      all_goals ((refine wk_hard rfl rfl ?_; (refine opw_call rfl (sp61 (hT.mono (by simp +contextual)) dir nm) inferInstance rfl ?_; rintro _ _ ⟨rfl, rfl⟩; simp only [List.nil_append, findR_abs, hfd, pairV]); refine nx_keeps inferInstance ?_))
      all_goals (refine wk_stab rfl rfl (Yld.move rfl) rfl ?_)
      all_goals (refine wk_stab rfl rfl (Yld.extract rfl rfl) rfl ?_)
      all_goals (refine wk_stab rfl rfl (Yld.extract rfl rfl) rfl ?_)
      all_goals (refine wk_stab rfl rfl (Yld.assign rfl) rfl ?_)
      all_goals (refine wk_stab rfl rfl (Yld.assign rfl) rfl ?_)
      all_goals refine wk_nil ?_
      all_goals refine kp_code_normal ?_
      all_goals refine nx_seq ?_
      all_goals refine nx_block ?_
      all_goals refine nx_seq ?_
      all_goals refine nx_region ?_
      all_goals (refine nx_op ?_; refine opw_yld (Yld.move rfl) rfl ?_)
      all_goals (refine nx_op ?_; refine opw_yld (Yld.cmp rfl rfl rfl) rfl ?_)
      all_goals (refine nx_op ?_; refine opw_yld (Yld.move rfl) rfl ?_)
      all_goals (first | refine nx_guard_n rfl (by first | rfl | assumption) rfl ?_ | refine nx_guard_u rfl rfl ?_ | ((first | refine nx_guard_y rfl (by first | rfl | assumption) ?_ | refine nx_guard rfl rfl (fun hc => ?_) (fun hc => ?_)); all_goals (first | (refine opw_yld (Yld.move rfl) rfl ?_) | skip)))
      all_goals (first | refine nx_guard_n rfl (by first | rfl | assumption) rfl ?_ | refine nx_guard_u rfl rfl ?_ | ((first | refine nx_guard_y rfl (by first | rfl | assumption) ?_ | refine nx_guard rfl rfl (fun hc => ?_) (fun hc => ?_)); all_goals (first | (refine opw_yld (Yld.not rfl) rfl ?_) | skip)))
      all_goals (refine nx_op ?_; (first | refine opw_yld (Yld.pick_t rfl (by first | rfl | assumption) rfl) rfl ?_ | refine opw_yld (Yld.pick_f rfl (by first | rfl | assumption) rfl) rfl ?_))
      all_goals (refine nx_op ?_; refine opw_yld (Yld.move rfl) rfl ?_)
      all_goals (first | refine nx_guard_n rfl (by first | rfl | assumption) rfl ?_ | refine nx_guard_u rfl rfl ?_ | ((first | refine nx_guard_y rfl (by first | rfl | assumption) ?_ | refine nx_guard rfl rfl (fun hc => ?_) (fun hc => ?_)); all_goals (first | (refine opw_yld (Yld.move rfl) rfl ?_) | skip)))
      all_goals (first | refine nx_guard_n rfl (by first | rfl | assumption) rfl ?_ | refine nx_guard_u rfl rfl ?_ | ((first | refine nx_guard_y rfl (by first | rfl | assumption) ?_ | refine nx_guard rfl rfl (fun hc => ?_) (fun hc => ?_)); all_goals (first | (refine opw_yld (Yld.move rfl) rfl ?_) | skip)))
      all_goals (first | refine nx_guard_n rfl (by first | rfl | assumption) rfl ?_ | refine nx_guard_u rfl rfl ?_ | ((first | refine nx_guard_y rfl (by first | rfl | assumption) ?_ | refine nx_guard rfl rfl (fun hc => ?_) (fun hc => ?_)); all_goals (first | (refine opw_yld (Yld.nilCheck rfl) rfl ?_) | skip)))
      all_goals (first | refine nx_guard_n rfl (by first | rfl | assumption) rfl ?_ | refine nx_guard_u rfl rfl ?_ | ((first | refine nx_guard_y rfl (by first | rfl | assumption) ?_ | refine nx_guard rfl rfl (fun hc => ?_) (fun hc => ?_)); all_goals (first | (refine opw_yld (Yld.fieldAddr rfl) rfl ?_) | skip)))
      all_goals (first | refine nx_guard_n rfl (by first | rfl | assumption) rfl ?_ | refine nx_guard_u rfl rfl ?_ | ((first | refine nx_guard_y rfl (by first | rfl | assumption) ?_ | refine nx_guard rfl rfl (fun hc => ?_) (fun hc => ?_)); all_goals (first | (refine opw_yld (Yld.load rfl) rfl ?_) | skip)))
      all_goals (first | refine nx_guard_n rfl (by first | rfl | assumption) rfl ?_ | refine nx_guard_u rfl rfl ?_ | ((first | refine nx_guard_y rfl (by first | rfl | assumption) ?_ | refine nx_guard rfl rfl (fun hc => ?_) (fun hc => ?_)); all_goals (first | ((refine opw_call rfl (sp130 (hT.mono (by simp +contextual)) _ (b := b) (hb := by intro y hy; simp only [wc, List.mem_singleton] at hy; subst hy; simp; first | exact ⟨rfl, rfl⟩ | exact Or.inl ⟨rfl, rfl⟩ | exact Or.inr (Or.inl ⟨rfl, rfl⟩))) inferInstance rfl ?_; rintro _ _ ⟨rfl, rfl⟩; simp only [List.nil_append])) | skip)))
      all_goals (first | refine nx_guard_n rfl (by first | rfl | assumption) rfl ?_ | refine nx_guard_u rfl rfl ?_ | ((first | refine nx_guard_y rfl (by first | rfl | assumption) ?_ | refine nx_guard rfl rfl (fun hc => ?_) (fun hc => ?_)); all_goals (first | (refine opw_yld (Yld.cmp rfl rfl rfl) rfl ?_) | skip)))
      all_goals (refine nx_op ?_; (first | refine opw_yld (Yld.pick_t rfl (by first | rfl | assumption) rfl) rfl ?_ | refine opw_yld (Yld.pick_f rfl (by first | rfl | assumption) rfl) rfl ?_))
      all_goals (refine nx_op ?_; refine opw_yld (Yld.assign rfl) rfl ?_)
      all_goals refine nx_nil ?_
      all_goals refine kp_code_normal ?_
      all_goals (refine nx_cond rfl (fun hc => ?_) (fun hc => ?_))
      all_goals (first | (exact Bool.noConfusion (hc.symm.trans (by first | rfl | assumption) : true = false)) | (exact Bool.noConfusion (hc.symm.trans (by first | rfl | assumption) : false = true)) | (all_goals refine nx_seq ?_; all_goals refine nx_region ?_; all_goals (refine nx_op ?_; refine opw_yld (Yld.move rfl) rfl ?_); all_goals (refine nx_op ?_; refine opw_yld (Yld.nilCheck rfl) rfl ?_); all_goals (refine nx_op ?_; refine opw_yld (Yld.fieldAddr rfl) rfl ?_); all_goals (refine nx_op ?_; refine opw_yld (Yld.load rfl) rfl ?_); all_goals (refine nx_op ?_; refine opw_yld (Yld.move rfl) rfl ?_); all_goals (refine nx_op ?_; refine opw_yld (Yld.build (cs := [.int .i64 dir, .string nm, .int .i64 0]) rfl rfl) rfl ?_); all_goals (refine nx_op ?_; refine opw_storeAgg rfl rfl rfl (by simp [Value.oneCell']) ?_); all_goals (refine nx_op ?_; refine opw_yld (Yld.assign rfl) rfl ?_); all_goals refine nx_nil ?_; all_goals refine kp_code_normal ?_; all_goals refine nx_ret ?_; all_goals refine kp_blk_ret ?_; all_goals refine kp_code_ret ?_; all_goals (exact resC2 (by first | exact .inl rfl | exact .inr rfl) Tryd.results93 rfl rfl [wc b T.t dir (40 - (fuel : Int))] inferInstance ⟨dir, _, rfl, by simp [foV], rfl, Nat.le_refl _⟩)) | (all_goals refine nx_seq ?_; all_goals refine nx_region ?_; all_goals (refine nx_op ?_; refine opw_yld (Yld.move rfl) rfl ?_); all_goals (refine nx_op ?_; refine opw_yld (Yld.cmp rfl rfl rfl) rfl ?_); all_goals (refine nx_op ?_; refine opw_yld (Yld.assign rfl) rfl ?_); all_goals refine nx_nil ?_; all_goals refine kp_code_normal ?_; all_goals (refine nx_cond rfl (fun hc => ?_) (fun hc => ?_)); all_goals (first | (exact Bool.noConfusion (hc.symm.trans (by first | rfl | assumption) : true = false)) | (exact Bool.noConfusion (hc.symm.trans (by first | rfl | assumption) : false = true)) | (all_goals refine nx_seq ?_; all_goals refine nx_region ?_; all_goals (refine nx_op ?_; refine opw_yld (Yld.build rfl rfl) rfl ?_); all_goals (refine nx_op ?_; refine opw_yld (Yld.move rfl) rfl ?_); all_goals (refine nx_op ?_; refine opw_storeAgg rfl rfl rfl (by simp [Value.oneCell']) ?_); all_goals (refine nx_op ?_; refine opw_yld (Yld.assign rfl) rfl ?_); all_goals refine nx_nil ?_; all_goals refine kp_code_normal ?_; all_goals refine nx_ret ?_; all_goals refine kp_blk_ret ?_; all_goals refine kp_code_ret ?_; all_goals (exact resC2 (by first | exact .inl rfl | exact .inr rfl) Tryd.results93 rfl rfl [wc b T.t dir (40 - (fuel : Int))] inferInstance ⟨dir, _, rfl, by simp [foV], rfl, Nat.le_refl _⟩)) | (all_goals refine nx_skip ?_))))
      all_goals refine kp_blk_normal ?_
      all_goals refine kp_code_normal ?_
      all_goals refine nx_seq ?_
      all_goals refine nx_region ?_
      all_goals (refine nx_op ?_; refine opw_yld (Yld.move rfl) rfl ?_)
      all_goals (refine nx_op ?_; refine opw_yld (Yld.nilCheck rfl) rfl ?_)
      all_goals (refine nx_op ?_; refine opw_yld (Yld.fieldAddr rfl) rfl ?_)
      all_goals (refine nx_op ?_; refine opw_yld (Yld.load rfl) rfl ?_)
      all_goals (refine nx_op ?_; refine opw_yld (Yld.move rfl) rfl ?_)
      all_goals (refine nx_op ?_; refine opw_yld (Yld.move rfl) rfl ?_)
      all_goals (refine nx_op ?_; refine opw_yld (Yld.build rfl rfl) rfl ?_)
      all_goals (refine nx_op ?_; refine opw_alc Alc.alloc rfl (fun b12 => ?_))
      all_goals (refine nx_op ?_; refine opw_storeAgg rfl rfl rfl (by simp [Value.oneCell']) ?_)
      all_goals refine nx_nil ?_
      all_goals refine kp_code_normal ?_
      all_goals refine nx_seq ?_
      all_goals refine nx_seq ?_
      all_goals refine nx_region ?_
      all_goals (refine nx_op ?_; refine opw_yld (Yld.move rfl) rfl ?_)
      all_goals (refine nx_op ?_; refine opw_yld (Yld.move rfl) rfl ?_)
      all_goals (refine nx_op ?_; (refine opw_call rfl (sp130 (hT.mono (by simp +contextual)) _ (b := b) (hb := by intro y hy; simp only [wc, List.mem_singleton] at hy; subst hy; simp; first | exact ⟨rfl, rfl⟩ | exact Or.inl ⟨rfl, rfl⟩ | exact Or.inr (Or.inl ⟨rfl, rfl⟩))) inferInstance rfl ?_; rintro _ _ ⟨rfl, rfl⟩; simp only [List.nil_append]))
      all_goals (refine nx_op ?_; refine opw_yld (Yld.cmp rfl rfl rfl) rfl ?_)
      all_goals (refine nx_op ?_; refine opw_yld (Yld.move rfl) rfl ?_)
      all_goals (first | refine nx_guard_n rfl (by first | rfl | assumption) rfl ?_ | refine nx_guard_u rfl rfl ?_ | ((first | refine nx_guard_y rfl (by first | rfl | assumption) ?_ | refine nx_guard rfl rfl (fun hc => ?_) (fun hc => ?_)); all_goals (first | (refine opw_yld (Yld.move rfl) rfl ?_) | skip)))
      all_goals (first | refine nx_guard_n rfl (by first | rfl | assumption) rfl ?_ | refine nx_guard_u rfl rfl ?_ | ((first | refine nx_guard_y rfl (by first | rfl | assumption) ?_ | refine nx_guard rfl rfl (fun hc => ?_) (fun hc => ?_)); all_goals (first | (refine opw_yld (Yld.move rfl) rfl ?_) | skip)))
      all_goals (first | refine nx_guard_n rfl (by first | rfl | assumption) rfl ?_ | refine nx_guard_u rfl rfl ?_ | ((first | refine nx_guard_y rfl (by first | rfl | assumption) ?_ | refine nx_guard rfl rfl (fun hc => ?_) (fun hc => ?_)); all_goals (first | (refine opw_yld (Yld.move rfl) rfl ?_) | skip)))
      all_goals (first | refine nx_guard_n rfl (by first | rfl | assumption) rfl ?_ | refine nx_guard_u rfl rfl ?_ | ((first | refine nx_guard_y rfl (by first | rfl | assumption) ?_ | refine nx_guard rfl rfl (fun hc => ?_) (fun hc => ?_)); all_goals (first | ((first | refine opw_yld (Yld.pick_t rfl (by first | rfl | assumption) rfl) rfl ?_ | refine opw_yld (Yld.pick_f rfl (by first | rfl | assumption) rfl) rfl ?_)) | skip)))
      all_goals (refine nx_op ?_; (first | refine opw_yld (Yld.pick_t rfl (by first | rfl | assumption) rfl) rfl ?_ | refine opw_yld (Yld.pick_f rfl (by first | rfl | assumption) rfl) rfl ?_))
      all_goals refine nx_nil ?_
      all_goals refine kp_code_normal ?_
      all_goals (refine nx_cond rfl (fun hc => ?_) (fun hc => ?_))
      all_goals (first | (exact Bool.noConfusion (hc.symm.trans (by first | rfl | assumption) : true = false)) | (exact Bool.noConfusion (hc.symm.trans (by first | rfl | assumption) : false = true)) | (all_goals refine nx_seq ?_; all_goals refine nx_seq ?_; all_goals refine nx_region ?_; all_goals (refine nx_op ?_; refine opw_yld (Yld.move rfl) rfl ?_); all_goals (refine nx_op ?_; refine opw_yld (Yld.move rfl) rfl ?_); all_goals (refine nx_op ?_; (fail)); all_goals (refine nx_op ?_; refine opw_yld (Yld.move rfl) rfl ?_); all_goals (refine nx_op ?_; refine opw_yld (Yld.extract rfl rfl) rfl ?_); all_goals (refine nx_op ?_; refine opw_yld (Yld.extract rfl rfl) rfl ?_); all_goals (refine nx_op ?_; refine opw_storeAgg rfl rfl rfl (by simp [Value.oneCell']) ?_); all_goals (refine nx_op ?_; refine opw_yld (Yld.assign rfl) rfl ?_); all_goals refine nx_nil ?_; all_goals refine kp_code_normal ?_; all_goals refine nx_seq ?_; all_goals refine nx_region ?_; all_goals (refine nx_op ?_; refine opw_yld (Yld.move rfl) rfl ?_); all_goals (refine nx_op ?_; refine opw_yld (Yld.cmp rfl rfl rfl) rfl ?_); all_goals refine nx_nil ?_; all_goals refine kp_code_normal ?_; all_goals (refine nx_cond rfl (fun hc => ?_) (fun hc => ?_)); all_goals (first | (exact Bool.noConfusion (hc.symm.trans (by first | rfl | assumption) : true = false)) | (exact Bool.noConfusion (hc.symm.trans (by first | rfl | assumption) : false = true)) | (all_goals refine nx_seq ?_; all_goals refine nx_region ?_; all_goals (refine nx_op ?_; refine opw_yld (Yld.build rfl rfl) rfl ?_); all_goals (refine nx_op ?_; refine opw_yld (Yld.move rfl) rfl ?_); all_goals (refine nx_op ?_; refine opw_storeAgg rfl rfl rfl (by simp [Value.oneCell']) ?_); all_goals (refine nx_op ?_; refine opw_yld (Yld.assign rfl) rfl ?_); all_goals refine nx_nil ?_; all_goals refine kp_code_normal ?_; all_goals refine nx_ret ?_; all_goals refine kp_code_ret ?_; all_goals refine kp_code_ret ?_; all_goals (exact resC2 (by first | exact .inl rfl | exact .inr rfl) Tryd.results93 rfl rfl [wc b T.t dir (40 - (fuel : Int))] inferInstance ⟨dir, _, rfl, by simp [foV], rfl, Nat.le_refl _⟩)) | (all_goals refine nx_skip ?_)); all_goals refine kp_code_normal ?_; all_goals refine nx_seq ?_; all_goals refine nx_region ?_; all_goals (refine nx_op ?_; refine opw_yld (Yld.fieldAddr rfl) rfl ?_); all_goals (refine nx_op ?_; refine opw_yld (Yld.load rfl) rfl ?_); all_goals (refine nx_op ?_; refine opw_yld (Yld.cmp rfl rfl rfl) rfl ?_); all_goals (refine nx_op ?_; refine opw_yld (Yld.move rfl) rfl ?_); all_goals (first | refine nx_guard_n rfl (by first | rfl | assumption) rfl ?_ | refine nx_guard_u rfl rfl ?_ | ((first | refine nx_guard_y rfl (by first | rfl | assumption) ?_ | refine nx_guard rfl rfl (fun hc => ?_) (fun hc => ?_)); all_goals (first | (refine opw_yld (Yld.move rfl) rfl ?_) | skip))); all_goals (refine nx_op ?_; (first | refine opw_yld (Yld.pick_t rfl (by first | rfl | assumption) rfl) rfl ?_ | refine opw_yld (Yld.pick_f rfl (by first | rfl | assumption) rfl) rfl ?_)); all_goals refine nx_nil ?_; all_goals refine kp_code_normal ?_; all_goals (refine nx_cond rfl (fun hc => ?_) (fun hc => ?_)); all_goals (first | (exact Bool.noConfusion (hc.symm.trans (by first | rfl | assumption) : true = false)) | (exact Bool.noConfusion (hc.symm.trans (by first | rfl | assumption) : false = true)) | (all_goals refine nx_seq ?_; all_goals refine nx_region ?_; all_goals (refine nx_op ?_; refine opw_yld (Yld.build rfl rfl) rfl ?_); all_goals (refine nx_op ?_; refine opw_storeAgg rfl rfl rfl (by simp [Value.oneCell']) ?_); all_goals (refine nx_op ?_; refine opw_yld (Yld.assign rfl) rfl ?_); all_goals refine nx_nil ?_; all_goals refine kp_code_normal ?_; all_goals refine nx_ret ?_; all_goals refine kp_code_ret ?_; all_goals (exact resC2 (by first | exact .inl rfl | exact .inr rfl) Tryd.results93 rfl rfl [wc b T.t dir (40 - (fuel : Int))] inferInstance ⟨dir, _, rfl, by simp [foV], rfl, Nat.le_refl _⟩)) | (all_goals refine nx_skip ?_))) | (all_goals refine nx_skip ?_))
      all_goals refine kp_code_normal ?_
      all_goals refine nx_seq ?_
      all_goals refine nx_seq ?_
      all_goals refine nx_region ?_
      all_goals (refine nx_op ?_; refine opw_yld (Yld.move rfl) rfl ?_)
      all_goals (refine nx_op ?_; refine opw_yld (Yld.move rfl) rfl ?_)
      all_goals (first | refine nx_guard_n rfl (by first | rfl | assumption) rfl ?_ | refine nx_guard_u rfl rfl ?_ | ((first | refine nx_guard_y rfl (by first | rfl | assumption) ?_ | refine nx_guard rfl rfl (fun hc => ?_) (fun hc => ?_)); all_goals (first | (refine opw_yld (Yld.move rfl) rfl ?_) | skip)))
      all_goals (first | refine nx_guard_n rfl (by first | rfl | assumption) rfl ?_ | refine nx_guard_u rfl rfl ?_ | ((first | refine nx_guard_y rfl (by first | rfl | assumption) ?_ | refine nx_guard rfl rfl (fun hc => ?_) (fun hc => ?_)); all_goals (first | (refine opw_yld (Yld.fieldAddr rfl) rfl ?_) | skip)))
      all_goals (first | refine nx_guard_n rfl (by first | rfl | assumption) rfl ?_ | refine nx_guard_u rfl rfl ?_ | ((first | refine nx_guard_y rfl (by first | rfl | assumption) ?_ | refine nx_guard rfl rfl (fun hc => ?_) (fun hc => ?_)); all_goals (first | (refine opw_yld (Yld.load rfl) rfl ?_) | skip)))
      all_goals (first | refine nx_guard_n rfl (by first | rfl | assumption) rfl ?_ | refine nx_guard_u rfl rfl ?_ | ((first | refine nx_guard_y rfl (by first | rfl | assumption) ?_ | refine nx_guard rfl rfl (fun hc => ?_) (fun hc => ?_)); all_goals (first | ((refine opw_call rfl (sp130 (hT.mono (by simp +contextual)) _ (b := b) (hb := by intro y hy; simp only [wc, List.mem_singleton] at hy; subst hy; simp; first | exact ⟨rfl, rfl⟩ | exact Or.inl ⟨rfl, rfl⟩ | exact Or.inr (Or.inl ⟨rfl, rfl⟩))) inferInstance rfl ?_; rintro _ _ ⟨rfl, rfl⟩; simp only [List.nil_append])) | skip)))
      all_goals (first | refine nx_guard_n rfl (by first | rfl | assumption) rfl ?_ | refine nx_guard_u rfl rfl ?_ | ((first | refine nx_guard_y rfl (by first | rfl | assumption) ?_ | refine nx_guard rfl rfl (fun hc => ?_) (fun hc => ?_)); all_goals (first | (refine opw_yld (Yld.cmp rfl rfl rfl) rfl ?_) | skip)))
      all_goals (refine nx_op ?_; (first | refine opw_yld (Yld.pick_t rfl (by first | rfl | assumption) rfl) rfl ?_ | refine opw_yld (Yld.pick_f rfl (by first | rfl | assumption) rfl) rfl ?_))
      all_goals refine nx_nil ?_
      all_goals refine kp_code_normal ?_
      all_goals (refine nx_cond rfl (fun hc => ?_) (fun hc => ?_))
      all_goals (first | (exact Bool.noConfusion (hc.symm.trans (by first | rfl | assumption) : true = false)) | (exact Bool.noConfusion (hc.symm.trans (by first | rfl | assumption) : false = true)) | (all_goals refine nx_seq ?_; all_goals refine nx_region ?_; all_goals (refine nx_op ?_; refine opw_yld (Yld.build rfl rfl) rfl ?_); all_goals (refine nx_op ?_; refine opw_storeAgg rfl rfl rfl (by simp [Value.oneCell']) ?_); all_goals (refine nx_op ?_; refine opw_yld (Yld.assign rfl) rfl ?_); all_goals refine nx_nil ?_; all_goals refine kp_code_normal ?_; all_goals refine nx_ret ?_; all_goals refine kp_code_ret ?_; all_goals (exact resC2 (by first | exact .inl rfl | exact .inr rfl) Tryd.results93 rfl rfl [wc b T.t dir (40 - (fuel : Int))] inferInstance ⟨dir, _, rfl, by simp [foV], rfl, Nat.le_refl _⟩)) | (all_goals refine nx_skip ?_))
      all_goals refine kp_code_normal ?_
      all_goals refine nx_seq ?_
      all_goals refine nx_region ?_
      all_goals (refine nx_op ?_; refine opw_yld (Yld.loadAgg rfl) rfl ?_)
      all_goals (refine nx_op ?_; refine opw_storeAgg rfl rfl rfl (by simp [Value.oneCell']) ?_)
      all_goals (refine nx_op ?_; refine opw_yld (Yld.assign rfl) rfl ?_)
      all_goals refine nx_nil ?_
      all_goals refine kp_code_normal ?_
      all_goals refine nx_ret ?_
      all_goals (exact resC2 (by first | exact .inl rfl | exact .inr rfl) Tryd.results93 rfl rfl [wc b T.t dir (40 - (fuel : Int))] inferInstance ⟨dir, _, rfl, by simp [foV], rfl, Nat.le_refl _⟩)
    · have hr : lastA (abs T.S) R dir (bs nm) fol isDir fuel = .error e := by simp [lastA, hfd, he, h2]
      rw [hr]
      by_cases hd : e = 2 ∧ isDir = false
      · obtain ⟨rfl, rfl⟩ := hd
        have hb2 : (kindA (abs T.S) dir == 2) = false := by simp at h2; simpa using h2
        all_goals refine nx_seq ?_
        all_goals refine nx_region ?_
        all_goals (refine nx_op ?_; refine opw_alc Alc.alloc rfl (fun b8 => ?_))
        all_goals (refine nx_op ?_; refine opw_yld (Yld.assign rfl) rfl ?_)
        all_goals refine nx_nil ?_
        all_goals refine kp_code_normal ?_
        all_goals refine nx_seq ?_
        all_goals refine nx_draw (fun i => match i with | 3 => .read | 7 => .read | 9 => .hard | _ => .stab) [] [0, 1, 2, 3, 4, 5, 6, 7, 8, 9, 10, 11, 12, 13, 14] rfl (by kernel_rfl) inferInstance ?_
        all_goals (refine wk_stab rfl rfl (Yld.move rfl) rfl ?_)
        all_goals (refine wk_stab rfl rfl (Yld.nilCheck rfl) rfl ?_)
        all_goals (refine wk_stab rfl rfl (Yld.fieldAddr rfl) rfl ?_)
        all_goals (refine wk_read rfl rfl (Yld.load rfl) rfl ?_)
        all_goals (refine wk_stab rfl rfl (Yld.move rfl) rfl ?_)
        all_goals (refine wk_stab rfl rfl (Yld.nilCheck rfl) rfl ?_)
        all_goals (refine wk_stab rfl rfl (Yld.fieldAddr rfl) rfl ?_)
        all_goals (refine wk_read rfl rfl (Yld.load rfl) rfl ?_)
        all_goals (refine wk_stab rfl rfl (Yld.move rfl) rfl ?_)
        all_goals ((refine wk_hard rfl rfl ?_; (refine opw_call rfl (sp61 (hT.mono (by simp +contextual)) dir nm) inferInstance rfl ?_; rintro _ _ ⟨rfl, rfl⟩; simp only [List.nil_append, findR_abs, hfd, pairV]); refine nx_keeps inferInstance ?_))
        all_goals (refine wk_stab rfl rfl (Yld.move rfl) rfl ?_)
        all_goals (refine wk_stab rfl rfl (Yld.extract rfl rfl) rfl ?_)
        all_goals (refine wk_stab rfl rfl (Yld.extract rfl rfl) rfl ?_)
        all_goals (refine wk_stab rfl rfl (Yld.assign rfl) rfl ?_)
        all_goals (refine wk_stab rfl rfl (Yld.assign rfl) rfl ?_)
        all_goals refine wk_nil ?_
        all_goals refine kp_code_normal ?_
        all_goals refine nx_seq ?_
        all_goals refine nx_block ?_
        all_goals refine nx_seq ?_
        all_goals refine nx_region ?_
        all_goals (refine nx_op ?_; refine opw_yld (Yld.move rfl) rfl ?_)
        all_goals (refine nx_op ?_; refine opw_yld (Yld.cmp rfl rfl rfl) rfl ?_)
        all_goals (refine nx_op ?_; refine opw_yld (Yld.move rfl) rfl ?_)
        all_goals (first | refine nx_guard_n rfl (by first | rfl | assumption) rfl ?_ | refine nx_guard_u rfl rfl ?_ | ((first | refine nx_guard_y rfl (by first | rfl | assumption) ?_ | refine nx_guard rfl rfl (fun hc => ?_) (fun hc => ?_)); all_goals (first | (refine opw_yld (Yld.move rfl) rfl ?_) | skip)))
        all_goals (first | refine nx_guard_n rfl (by first | rfl | assumption) rfl ?_ | refine nx_guard_u rfl rfl ?_ | ((first | refine nx_guard_y rfl (by first | rfl | assumption) ?_ | refine nx_guard rfl rfl (fun hc => ?_) (fun hc => ?_)); all_goals (first | (refine opw_yld (Yld.not rfl) rfl ?_) | skip)))
        all_goals (refine nx_op ?_; (first | refine opw_yld (Yld.pick_t rfl (by first | rfl | assumption) rfl) rfl ?_ | refine opw_yld (Yld.pick_f rfl (by first | rfl | assumption) rfl) rfl ?_))
        all_goals (refine nx_op ?_; refine opw_yld (Yld.move rfl) rfl ?_)
        all_goals (first | refine nx_guard_n rfl (by first | rfl | assumption) rfl ?_ | refine nx_guard_u rfl rfl ?_ | ((first | refine nx_guard_y rfl (by first | rfl | assumption) ?_ | refine nx_guard rfl rfl (fun hc => ?_) (fun hc => ?_)); all_goals (first | (refine opw_yld (Yld.move rfl) rfl ?_) | skip)))
        all_goals (first | refine nx_guard_n rfl (by first | rfl | assumption) rfl ?_ | refine nx_guard_u rfl rfl ?_ | ((first | refine nx_guard_y rfl (by first | rfl | assumption) ?_ | refine nx_guard rfl rfl (fun hc => ?_) (fun hc => ?_)); all_goals (first | (refine opw_yld (Yld.move rfl) rfl ?_) | skip)))
        all_goals (first | refine nx_guard_n rfl (by first | rfl | assumption) rfl ?_ | refine nx_guard_u rfl rfl ?_ | ((first | refine nx_guard_y rfl (by first | rfl | assumption) ?_ | refine nx_guard rfl rfl (fun hc => ?_) (fun hc => ?_)); all_goals (first | (refine opw_yld (Yld.nilCheck rfl) rfl ?_) | skip)))
        all_goals (first | refine nx_guard_n rfl (by first | rfl | assumption) rfl ?_ | refine nx_guard_u rfl rfl ?_ | ((first | refine nx_guard_y rfl (by first | rfl | assumption) ?_ | refine nx_guard rfl rfl (fun hc => ?_) (fun hc => ?_)); all_goals (first | (refine opw_yld (Yld.fieldAddr rfl) rfl ?_) | skip)))
        all_goals (first | refine nx_guard_n rfl (by first | rfl | assumption) rfl ?_ | refine nx_guard_u rfl rfl ?_ | ((first | refine nx_guard_y rfl (by first | rfl | assumption) ?_ | refine nx_guard rfl rfl (fun hc => ?_) (fun hc => ?_)); all_goals (first | (refine opw_yld (Yld.load rfl) rfl ?_) | skip)))
        all_goals (first | refine nx_guard_n rfl (by first | rfl | assumption) rfl ?_ | refine nx_guard_u rfl rfl ?_ | ((first | refine nx_guard_y rfl (by first | rfl | assumption) ?_ | refine nx_guard rfl rfl (fun hc => ?_) (fun hc => ?_)); all_goals (first | ((refine opw_call rfl (sp130 (hT.mono (by simp +contextual)) _ (b := b) (hb := by intro y hy; simp only [wc, List.mem_singleton] at hy; subst hy; simp; first | exact ⟨rfl, rfl⟩ | exact Or.inl ⟨rfl, rfl⟩ | exact Or.inr (Or.inl ⟨rfl, rfl⟩))) inferInstance rfl ?_; rintro _ _ ⟨rfl, rfl⟩; simp only [List.nil_append])) | skip)))
        all_goals (first | refine nx_guard_n rfl (by first | rfl | assumption) rfl ?_ | refine nx_guard_u rfl rfl ?_ | ((first | refine nx_guard_y rfl (by first | rfl | assumption) ?_ | refine nx_guard rfl rfl (fun hc => ?_) (fun hc => ?_)); all_goals (first | (refine opw_yld (Yld.cmp rfl rfl rfl) rfl ?_) | skip)))
        all_goals (refine nx_op ?_; (first | refine opw_yld (Yld.pick_t rfl (by first | rfl | assumption) rfl) rfl ?_ | refine opw_yld (Yld.pick_f rfl (by first | rfl | assumption) rfl) rfl ?_))
        all_goals (refine nx_op ?_; refine opw_yld (Yld.assign rfl) rfl ?_)
        all_goals refine nx_nil ?_
        all_goals refine kp_code_normal ?_
        all_goals (refine nx_cond rfl (fun hc => ?_) (fun hc => ?_))
        all_goals (first | (exact Bool.noConfusion (hc.symm.trans (by first | rfl | assumption) : true = false)) | (exact Bool.noConfusion (hc.symm.trans (by first | rfl | assumption) : false = true)) | (all_goals refine nx_seq ?_; all_goals refine nx_region ?_; all_goals (refine nx_op ?_; refine opw_yld (Yld.move rfl) rfl ?_); all_goals (refine nx_op ?_; refine opw_yld (Yld.nilCheck rfl) rfl ?_); all_goals (refine nx_op ?_; refine opw_yld (Yld.fieldAddr rfl) rfl ?_); all_goals (refine nx_op ?_; refine opw_yld (Yld.load rfl) rfl ?_); all_goals (refine nx_op ?_; refine opw_yld (Yld.move rfl) rfl ?_); all_goals (refine nx_op ?_; refine opw_yld (Yld.build rfl rfl) rfl ?_); all_goals (refine nx_op ?_; refine opw_storeAgg rfl rfl rfl (by simp [Value.oneCell']) ?_); all_goals (refine nx_op ?_; refine opw_yld (Yld.assign rfl) rfl ?_); all_goals refine nx_nil ?_; all_goals refine kp_code_normal ?_; all_goals refine nx_ret ?_; all_goals refine kp_blk_ret ?_; all_goals refine kp_code_ret ?_; all_goals (exact resC2 (by first | exact .inl rfl | exact .inr rfl) Tryd.results93 rfl rfl [wc b T.t dir (40 - (fuel : Int))] inferInstance ⟨dir, _, rfl, he, rfl⟩)) | (all_goals refine nx_seq ?_; all_goals refine nx_region ?_; all_goals (refine nx_op ?_; refine opw_yld (Yld.move rfl) rfl ?_); all_goals (refine nx_op ?_; refine opw_yld (Yld.cmp rfl rfl rfl) rfl ?_); all_goals (refine nx_op ?_; refine opw_yld (Yld.assign rfl) rfl ?_); all_goals refine nx_nil ?_; all_goals refine kp_code_normal ?_; all_goals (refine nx_cond rfl (fun hc => ?_) (fun hc => ?_)); all_goals (first | (exact Bool.noConfusion (hc.symm.trans (by first | rfl | assumption) : true = false)) | (exact Bool.noConfusion (hc.symm.trans (by first | rfl | assumption) : false = true)) | (all_goals refine nx_seq ?_; all_goals refine nx_region ?_; all_goals (refine nx_op ?_; refine opw_yld (Yld.build (cs := [.int .i64 0, .string ⟨#[]⟩, .int .i64 0]) rfl rfl) rfl ?_); all_goals (refine nx_op ?_; refine opw_yld (Yld.move rfl) rfl ?_); all_goals (refine nx_op ?_; refine opw_storeAgg rfl rfl rfl (by simp [Value.oneCell']) ?_); all_goals (refine nx_op ?_; refine opw_yld (Yld.assign rfl) rfl ?_); all_goals refine nx_nil ?_; all_goals refine kp_code_normal ?_; all_goals refine nx_ret ?_; all_goals refine kp_blk_ret ?_; all_goals refine kp_code_ret ?_; all_goals (exact resC2 (by first | exact .inl rfl | exact .inr rfl) Tryd.results93 rfl rfl [wc b T.t dir (40 - (fuel : Int))] inferInstance ⟨dir, _, rfl, he, rfl⟩)) | (all_goals refine nx_skip ?_))))
        all_goals refine kp_blk_normal ?_
        all_goals refine kp_code_normal ?_
        all_goals refine nx_seq ?_
        all_goals refine nx_region ?_
        all_goals (refine nx_op ?_; refine opw_yld (Yld.move rfl) rfl ?_)
        all_goals (refine nx_op ?_; refine opw_yld (Yld.nilCheck rfl) rfl ?_)
        all_goals (refine nx_op ?_; refine opw_yld (Yld.fieldAddr rfl) rfl ?_)
        all_goals (refine nx_op ?_; refine opw_yld (Yld.load rfl) rfl ?_)
        all_goals (refine nx_op ?_; refine opw_yld (Yld.move rfl) rfl ?_)
        all_goals (refine nx_op ?_; refine opw_yld (Yld.move rfl) rfl ?_)
        all_goals (refine nx_op ?_; refine opw_yld (Yld.build rfl rfl) rfl ?_)
        all_goals (refine nx_op ?_; refine opw_alc Alc.alloc rfl (fun b12 => ?_))
        all_goals (refine nx_op ?_; refine opw_storeAgg rfl rfl rfl (by simp [Value.oneCell']) ?_)
        all_goals refine nx_nil ?_
        all_goals refine kp_code_normal ?_
        all_goals refine nx_seq ?_
        all_goals refine nx_seq ?_
        all_goals refine nx_region ?_
        all_goals (refine nx_op ?_; refine opw_yld (Yld.move rfl) rfl ?_)
        all_goals (refine nx_op ?_; refine opw_yld (Yld.move rfl) rfl ?_)
        all_goals (refine nx_op ?_; (refine opw_call rfl (sp130 (hT.mono (by simp +contextual)) _ (b := b) (hb := by intro y hy; simp only [wc, List.mem_singleton] at hy; subst hy; simp; first | exact ⟨rfl, rfl⟩ | exact Or.inl ⟨rfl, rfl⟩ | exact Or.inr (Or.inl ⟨rfl, rfl⟩))) inferInstance rfl ?_; rintro _ _ ⟨rfl, rfl⟩; simp only [List.nil_append]))
        all_goals (refine nx_op ?_; refine opw_yld (Yld.cmp rfl rfl rfl) rfl ?_)
        all_goals (refine nx_op ?_; refine opw_yld (Yld.move rfl) rfl ?_)
        all_goals (first | refine nx_guard_n rfl (by first | rfl | assumption) rfl ?_ | refine nx_guard_u rfl rfl ?_ | ((first | refine nx_guard_y rfl (by first | rfl | assumption) ?_ | refine nx_guard rfl rfl (fun hc => ?_) (fun hc => ?_)); all_goals (first | (refine opw_yld (Yld.move rfl) rfl ?_) | skip)))
        all_goals (first | refine nx_guard_n rfl (by first | rfl | assumption) rfl ?_ | refine nx_guard_u rfl rfl ?_ | ((first | refine nx_guard_y rfl (by first | rfl | assumption) ?_ | refine nx_guard rfl rfl (fun hc => ?_) (fun hc => ?_)); all_goals (first | (refine opw_yld (Yld.move rfl) rfl ?_) | skip)))
        all_goals (first | refine nx_guard_n rfl (by first | rfl | assumption) rfl ?_ | refine nx_guard_u rfl rfl ?_ | ((first | refine nx_guard_y rfl (by first | rfl | assumption) ?_ | refine nx_guard rfl rfl (fun hc => ?_) (fun hc => ?_)); all_goals (first | (refine opw_yld (Yld.move rfl) rfl ?_) | skip)))
        all_goals (first | refine nx_guard_n rfl (by first | rfl | assumption) rfl ?_ | refine nx_guard_u rfl rfl ?_ | ((first | refine nx_guard_y rfl (by first | rfl | assumption) ?_ | refine nx_guard rfl rfl (fun hc => ?_) (fun hc => ?_)); all_goals (first | ((first | refine opw_yld (Yld.pick_t rfl (by first | rfl | assumption) rfl) rfl ?_ | refine opw_yld (Yld.pick_f rfl (by first | rfl | assumption) rfl) rfl ?_)) | skip)))
        all_goals (refine nx_op ?_; (first | refine opw_yld (Yld.pick_t rfl (by first | rfl | assumption) rfl) rfl ?_ | refine opw_yld (Yld.pick_f rfl (by first | rfl | assumption) rfl) rfl ?_))
        all_goals refine nx_nil ?_
        all_goals refine kp_code_normal ?_
        all_goals (refine nx_cond rfl (fun hc => ?_) (fun hc => ?_))
        all_goals (first | (exact Bool.noConfusion (hc.symm.trans (by first | rfl | assumption) : true = false)) | (exact Bool.noConfusion (hc.symm.trans (by first | rfl | assumption) : false = true)) | (all_goals refine nx_seq ?_; all_goals refine nx_seq ?_; all_goals refine nx_region ?_; all_goals (refine nx_op ?_; refine opw_yld (Yld.move rfl) rfl ?_); all_goals (refine nx_op ?_; refine opw_yld (Yld.move rfl) rfl ?_); all_goals (refine nx_op ?_; (fail)); all_goals (refine nx_op ?_; refine opw_yld (Yld.move rfl) rfl ?_); all_goals (refine nx_op ?_; refine opw_yld (Yld.extract rfl rfl) rfl ?_); all_goals (refine nx_op ?_; refine opw_yld (Yld.extract rfl rfl) rfl ?_); all_goals (refine nx_op ?_; refine opw_storeAgg rfl rfl rfl (by simp [Value.oneCell']) ?_); all_goals (refine nx_op ?_; refine opw_yld (Yld.assign rfl) rfl ?_); all_goals refine nx_nil ?_; all_goals refine kp_code_normal ?_; all_goals refine nx_seq ?_; all_goals refine nx_region ?_; all_goals (refine nx_op ?_; refine opw_yld (Yld.move rfl) rfl ?_); all_goals (refine nx_op ?_; refine opw_yld (Yld.cmp rfl rfl rfl) rfl ?_); all_goals refine nx_nil ?_; all_goals refine kp_code_normal ?_; all_goals (refine nx_cond rfl (fun hc => ?_) (fun hc => ?_)); all_goals (first | (exact Bool.noConfusion (hc.symm.trans (by first | rfl | assumption) : true = false)) | (exact Bool.noConfusion (hc.symm.trans (by first | rfl | assumption) : false = true)) | (all_goals refine nx_seq ?_; all_goals refine nx_region ?_; all_goals (refine nx_op ?_; refine opw_yld (Yld.build rfl rfl) rfl ?_); all_goals (refine nx_op ?_; refine opw_yld (Yld.move rfl) rfl ?_); all_goals (refine nx_op ?_; refine opw_storeAgg rfl rfl rfl (by simp [Value.oneCell']) ?_); all_goals (refine nx_op ?_; refine opw_yld (Yld.assign rfl) rfl ?_); all_goals refine nx_nil ?_; all_goals refine kp_code_normal ?_; all_goals refine nx_ret ?_; all_goals refine kp_code_ret ?_; all_goals refine kp_code_ret ?_; all_goals (exact resC2 (by first | exact .inl rfl | exact .inr rfl) Tryd.results93 rfl rfl [wc b T.t dir (40 - (fuel : Int))] inferInstance ⟨dir, _, rfl, he, rfl⟩)) | (all_goals refine nx_skip ?_)); all_goals refine kp_code_normal ?_; all_goals refine nx_seq ?_; all_goals refine nx_region ?_; all_goals (refine nx_op ?_; refine opw_yld (Yld.fieldAddr rfl) rfl ?_); all_goals (refine nx_op ?_; refine opw_yld (Yld.load rfl) rfl ?_); all_goals (refine nx_op ?_; refine opw_yld (Yld.cmp rfl rfl rfl) rfl ?_); all_goals (refine nx_op ?_; refine opw_yld (Yld.move rfl) rfl ?_); all_goals (first | refine nx_guard_n rfl (by first | rfl | assumption) rfl ?_ | refine nx_guard_u rfl rfl ?_ | ((first | refine nx_guard_y rfl (by first | rfl | assumption) ?_ | refine nx_guard rfl rfl (fun hc => ?_) (fun hc => ?_)); all_goals (first | (refine opw_yld (Yld.move rfl) rfl ?_) | skip))); all_goals (refine nx_op ?_; (first | refine opw_yld (Yld.pick_t rfl (by first | rfl | assumption) rfl) rfl ?_ | refine opw_yld (Yld.pick_f rfl (by first | rfl | assumption) rfl) rfl ?_)); all_goals refine nx_nil ?_; all_goals refine kp_code_normal ?_; all_goals (refine nx_cond rfl (fun hc => ?_) (fun hc => ?_)); all_goals (first | (exact Bool.noConfusion (hc.symm.trans (by first | rfl | assumption) : true = false)) | (exact Bool.noConfusion (hc.symm.trans (by first | rfl | assumption) : false = true)) | (all_goals refine nx_seq ?_; all_goals refine nx_region ?_; all_goals (refine nx_op ?_; refine opw_yld (Yld.build rfl rfl) rfl ?_); all_goals (refine nx_op ?_; refine opw_storeAgg rfl rfl rfl (by simp [Value.oneCell']) ?_); all_goals (refine nx_op ?_; refine opw_yld (Yld.assign rfl) rfl ?_); all_goals refine nx_nil ?_; all_goals refine kp_code_normal ?_; all_goals refine nx_ret ?_; all_goals refine kp_code_ret ?_; all_goals (exact resC2 (by first | exact .inl rfl | exact .inr rfl) Tryd.results93 rfl rfl [wc b T.t dir (40 - (fuel : Int))] inferInstance ⟨dir, _, rfl, he, rfl⟩)) | (all_goals refine nx_skip ?_))) | (all_goals refine nx_skip ?_))
        all_goals refine kp_code_normal ?_
        all_goals refine nx_seq ?_
        all_goals refine nx_seq ?_
        all_goals refine nx_region ?_
        all_goals (refine nx_op ?_; refine opw_yld (Yld.move rfl) rfl ?_)
        all_goals (refine nx_op ?_; refine opw_yld (Yld.move rfl) rfl ?_)
        all_goals (first | refine nx_guard_n rfl (by first | rfl | assumption) rfl ?_ | refine nx_guard_u rfl rfl ?_ | ((first | refine nx_guard_y rfl (by first | rfl | assumption) ?_ | refine nx_guard rfl rfl (fun hc => ?_) (fun hc => ?_)); all_goals (first | (refine opw_yld (Yld.move rfl) rfl ?_) | skip)))
        all_goals (first | refine nx_guard_n rfl (by first | rfl | assumption) rfl ?_ | refine nx_guard_u rfl rfl ?_ | ((first | refine nx_guard_y rfl (by first | rfl | assumption) ?_ | refine nx_guard rfl rfl (fun hc => ?_) (fun hc => ?_)); all_goals (first | (refine opw_yld (Yld.fieldAddr rfl) rfl ?_) | skip)))
        all_goals (first | refine nx_guard_n rfl (by first | rfl | assumption) rfl ?_ | refine nx_guard_u rfl rfl ?_ | ((first | refine nx_guard_y rfl (by first | rfl | assumption) ?_ | refine nx_guard rfl rfl (fun hc => ?_) (fun hc => ?_)); all_goals (first | (refine opw_yld (Yld.load rfl) rfl ?_) | skip)))
        all_goals (first | refine nx_guard_n rfl (by first | rfl | assumption) rfl ?_ | refine nx_guard_u rfl rfl ?_ | ((first | refine nx_guard_y rfl (by first | rfl | assumption) ?_ | refine nx_guard rfl rfl (fun hc => ?_) (fun hc => ?_)); all_goals (first | ((refine opw_call rfl (sp130 (hT.mono (by simp +contextual)) _ (b := b) (hb := by intro y hy; simp only [wc, List.mem_singleton] at hy; subst hy; simp; first | exact ⟨rfl, rfl⟩ | exact Or.inl ⟨rfl, rfl⟩ | exact Or.inr (Or.inl ⟨rfl, rfl⟩))) inferInstance rfl ?_; rintro _ _ ⟨rfl, rfl⟩; simp only [List.nil_append])) | skip)))
        all_goals (first | refine nx_guard_n rfl (by first | rfl | assumption) rfl ?_ | refine nx_guard_u rfl rfl ?_ | ((first | refine nx_guard_y rfl (by first | rfl | assumption) ?_ | refine nx_guard rfl rfl (fun hc => ?_) (fun hc => ?_)); all_goals (first | (refine opw_yld (Yld.cmp rfl rfl rfl) rfl ?_) | skip)))
        all_goals (refine nx_op ?_; (first | refine opw_yld (Yld.pick_t rfl (by first | rfl | assumption) rfl) rfl ?_ | refine opw_yld (Yld.pick_f rfl (by first | rfl | assumption) rfl) rfl ?_))
        all_goals refine nx_nil ?_
        all_goals refine kp_code_normal ?_
        all_goals (refine nx_cond rfl (fun hc => ?_) (fun hc => ?_))
        all_goals (first | (exact Bool.noConfusion (hc.symm.trans (by first | rfl | assumption) : true = false)) | (exact Bool.noConfusion (hc.symm.trans (by first | rfl | assumption) : false = true)) | (all_goals refine nx_seq ?_; all_goals refine nx_region ?_; all_goals (refine nx_op ?_; refine opw_yld (Yld.build rfl rfl) rfl ?_); all_goals (refine nx_op ?_; refine opw_storeAgg rfl rfl rfl (by simp [Value.oneCell']) ?_); all_goals (refine nx_op ?_; refine opw_yld (Yld.assign rfl) rfl ?_); all_goals refine nx_nil ?_; all_goals refine kp_code_normal ?_; all_goals refine nx_ret ?_; all_goals refine kp_code_ret ?_; all_goals (exact resC2 (by first | exact .inl rfl | exact .inr rfl) Tryd.results93 rfl rfl [wc b T.t dir (40 - (fuel : Int))] inferInstance ⟨dir, _, rfl, he, rfl⟩)) | (all_goals refine nx_skip ?_))
        all_goals refine kp_code_normal ?_
        all_goals refine nx_seq ?_
        all_goals refine nx_region ?_
        all_goals (refine nx_op ?_; refine opw_yld (Yld.loadAgg rfl) rfl ?_)
        all_goals (refine nx_op ?_; refine opw_storeAgg rfl rfl rfl (by simp [Value.oneCell']) ?_)
        all_goals (refine nx_op ?_; refine opw_yld (Yld.assign rfl) rfl ?_)
        all_goals refine nx_nil ?_
        all_goals refine kp_code_normal ?_
        all_goals refine nx_ret ?_
        all_goals (exact resC2 (by first | exact .inl rfl | exact .inr rfl) Tryd.results93 rfl rfl [wc b T.t dir (40 - (fuel : Int))] inferInstance ⟨dir, _, rfl, he, rfl⟩)
      · by_cases h22 : e = 2
        · subst h22
          have hi : isDir = true := by simpa using hd
          subst hi
          all_goals refine nx_seq ?_
          all_goals refine nx_region ?_
          all_goals (refine nx_op ?_; refine opw_alc Alc.alloc rfl (fun b8 => ?_))
          all_goals (refine nx_op ?_; refine opw_yld (Yld.assign rfl) rfl ?_)
          all_goals refine nx_nil ?_
          all_goals refine kp_code_normal ?_
          all_goals refine nx_seq ?_
          all_goals refine nx_draw (fun i => match i with | 3 => .read | 7 => .read | 9 => .hard | _ => .stab) [] [0, 1, 2, 3, 4, 5, 6, 7, 8, 9, 10, 11, 12, 13, 14] rfl (by kernel_rfl) inferInstance ?_
          all_goals (refine wk_stab rfl rfl (Yld.move rfl) rfl ?_)
          all_goals (refine wk_stab rfl rfl (Yld.nilCheck rfl) rfl ?_)
          all_goals (refine wk_stab rfl rfl (Yld.fieldAddr rfl) rfl ?_)
          all_goals (refine wk_read rfl rfl (Yld.load rfl) rfl ?_)
          all_goals (refine wk_stab rfl rfl (Yld.move rfl) rfl ?_)
          all_goals (refine wk_stab rfl rfl (Yld.nilCheck rfl) rfl ?_)
          all_goals (refine wk_stab rfl rfl (Yld.fieldAddr rfl) rfl ?_)
          all_goals (refine wk_read rfl rfl (Yld.load rfl) rfl ?_)
          all_goals (refine wk_stab rfl rfl (Yld.move rfl) rfl ?_)
          all_goals ((refine wk_hard rfl rfl ?_; (refine opw_call rfl (sp61 (hT.mono (by simp +contextual)) dir nm) inferInstance rfl ?_; rintro _ _ ⟨rfl, rfl⟩; simp only [List.nil_append, findR_abs, hfd, pairV]); refine nx_keeps inferInstance ?_))
          all_goals (refine wk_stab rfl rfl (Yld.move rfl) rfl ?_)
          all_goals (refine wk_stab rfl rfl (Yld.extract rfl rfl) rfl ?_)
          all_goals (refine wk_stab rfl rfl (Yld.extract rfl rfl) rfl ?_)
          all_goals (refine wk_stab rfl rfl (Yld.assign rfl) rfl ?_)
          all_goals (refine wk_stab rfl rfl (Yld.assign rfl) rfl ?_)
          all_goals refine wk_nil ?_
          all_goals refine kp_code_normal ?_
          all_goals refine nx_seq ?_
          all_goals refine nx_block ?_
          all_goals refine nx_seq ?_
          all_goals refine nx_region ?_
          all_goals (refine nx_op ?_; refine opw_yld (Yld.move rfl) rfl ?_)
          all_goals (refine nx_op ?_; refine opw_yld (Yld.cmp rfl rfl rfl) rfl ?_)
          all_goals (refine nx_op ?_; refine opw_yld (Yld.move rfl) rfl ?_)
          all_goals (first | refine nx_guard_n rfl (by first | rfl | assumption) rfl ?_ | refine nx_guard_u rfl rfl ?_ | ((first | refine nx_guard_y rfl (by first | rfl | assumption) ?_ | refine nx_guard rfl rfl (fun hc => ?_) (fun hc => ?_)); all_goals (first | (refine opw_yld (Yld.move rfl) rfl ?_) | skip)))
          all_goals (first | refine nx_guard_n rfl (by first | rfl | assumption) rfl ?_ | refine nx_guard_u rfl rfl ?_ | ((first | refine nx_guard_y rfl (by first | rfl | assumption) ?_ | refine nx_guard rfl rfl (fun hc => ?_) (fun hc => ?_)); all_goals (first | (refine opw_yld (Yld.not rfl) rfl ?_) | skip)))
          all_goals (refine nx_op ?_; (first | refine opw_yld (Yld.pick_t rfl (by first | rfl | assumption) rfl) rfl ?_ | refine opw_yld (Yld.pick_f rfl (by first | rfl | assumption) rfl) rfl ?_))
          all_goals (refine nx_op ?_; refine opw_yld (Yld.move rfl) rfl ?_)
          all_goals (first | refine nx_guard_n rfl (by first | rfl | assumption) rfl ?_ | refine nx_guard_u rfl rfl ?_ | ((first | refine nx_guard_y rfl (by first | rfl | assumption) ?_ | refine nx_guard rfl rfl (fun hc => ?_) (fun hc => ?_)); all_goals (first | (refine opw_yld (Yld.move rfl) rfl ?_) | skip)))
          all_goals (first | refine nx_guard_n rfl (by first | rfl | assumption) rfl ?_ | refine nx_guard_u rfl rfl ?_ | ((first | refine nx_guard_y rfl (by first | rfl | assumption) ?_ | refine nx_guard rfl rfl (fun hc => ?_) (fun hc => ?_)); all_goals (first | (refine opw_yld (Yld.move rfl) rfl ?_) | skip)))
          all_goals (first | refine nx_guard_n rfl (by first | rfl | assumption) rfl ?_ | refine nx_guard_u rfl rfl ?_ | ((first | refine nx_guard_y rfl (by first | rfl | assumption) ?_ | refine nx_guard rfl rfl (fun hc => ?_) (fun hc => ?_)); all_goals (first | (refine opw_yld (Yld.nilCheck rfl) rfl ?_) | skip)))
          all_goals (first | refine nx_guard_n rfl (by first | rfl | assumption) rfl ?_ | refine nx_guard_u rfl rfl ?_ | ((first | refine nx_guard_y rfl (by first | rfl | assumption) ?_ | refine nx_guard rfl rfl (fun hc => ?_) (fun hc => ?_)); all_goals (first | (refine opw_yld (Yld.fieldAddr rfl) rfl ?_) | skip)))
          all_goals (first | refine nx_guard_n rfl (by first | rfl | assumption) rfl ?_ | refine nx_guard_u rfl rfl ?_ | ((first | refine nx_guard_y rfl (by first | rfl | assumption) ?_ | refine nx_guard rfl rfl (fun hc => ?_) (fun hc => ?_)); all_goals (first | (refine opw_yld (Yld.load rfl) rfl ?_) | skip)))
          all_goals (first | refine nx_guard_n rfl (by first | rfl | assumption) rfl ?_ | refine nx_guard_u rfl rfl ?_ | ((first | refine nx_guard_y rfl (by first | rfl | assumption) ?_ | refine nx_guard rfl rfl (fun hc => ?_) (fun hc => ?_)); all_goals (first | ((fail)) | skip)))
          all_goals (first | refine nx_guard_n rfl (by first | rfl | assumption) rfl ?_ | refine nx_guard_u rfl rfl ?_ | ((first | refine nx_guard_y rfl (by first | rfl | assumption) ?_ | refine nx_guard rfl rfl (fun hc => ?_) (fun hc => ?_)); all_goals (first | (refine opw_yld (Yld.cmp rfl rfl rfl) rfl ?_) | skip)))
          all_goals (refine nx_op ?_; (first | refine opw_yld (Yld.pick_t rfl (by first | rfl | assumption) rfl) rfl ?_ | refine opw_yld (Yld.pick_f rfl (by first | rfl | assumption) rfl) rfl ?_))
          all_goals (refine nx_op ?_; refine opw_yld (Yld.assign rfl) rfl ?_)
          all_goals refine nx_nil ?_
          all_goals refine kp_code_normal ?_
          all_goals (refine nx_cond rfl (fun hc => ?_) (fun hc => ?_))
          all_goals (first | (exact Bool.noConfusion (hc.symm.trans (by first | rfl | assumption) : true = false)) | (exact Bool.noConfusion (hc.symm.trans (by first | rfl | assumption) : false = true)) | (all_goals refine nx_seq ?_; all_goals refine nx_region ?_; all_goals (refine nx_op ?_; refine opw_yld (Yld.move rfl) rfl ?_); all_goals (refine nx_op ?_; refine opw_yld (Yld.nilCheck rfl) rfl ?_); all_goals (refine nx_op ?_; refine opw_yld (Yld.fieldAddr rfl) rfl ?_); all_goals (refine nx_op ?_; refine opw_yld (Yld.load rfl) rfl ?_); all_goals (refine nx_op ?_; refine opw_yld (Yld.move rfl) rfl ?_); all_goals (refine nx_op ?_; refine opw_yld (Yld.build rfl rfl) rfl ?_); all_goals (refine nx_op ?_; refine opw_storeAgg rfl rfl rfl (by simp [Value.oneCell']) ?_); all_goals (refine nx_op ?_; refine opw_yld (Yld.assign rfl) rfl ?_); all_goals refine nx_nil ?_; all_goals refine kp_code_normal ?_; all_goals refine nx_ret ?_; all_goals refine kp_blk_ret ?_; all_goals refine kp_code_ret ?_; all_goals (exact resC2 (by first | exact .inl rfl | exact .inr rfl) Tryd.results93 rfl rfl [wc b T.t dir (40 - (fuel : Int))] inferInstance ⟨dir, _, rfl, he, rfl⟩)) | (all_goals refine nx_seq ?_; all_goals refine nx_region ?_; all_goals (refine nx_op ?_; refine opw_yld (Yld.move rfl) rfl ?_); all_goals (refine nx_op ?_; refine opw_yld (Yld.cmp rfl rfl rfl) rfl ?_); all_goals (refine nx_op ?_; refine opw_yld (Yld.assign rfl) rfl ?_); all_goals refine nx_nil ?_; all_goals refine kp_code_normal ?_; all_goals (refine nx_cond rfl (fun hc => ?_) (fun hc => ?_)); all_goals (first | (exact Bool.noConfusion (hc.symm.trans (by first | rfl | assumption) : true = false)) | (exact Bool.noConfusion (hc.symm.trans (by first | rfl | assumption) : false = true)) | (all_goals refine nx_seq ?_; all_goals refine nx_region ?_; all_goals (refine nx_op ?_; refine opw_yld (Yld.build (cs := [.int .i64 0, .string ⟨#[]⟩, .int .i64 0]) rfl rfl) rfl ?_); all_goals (refine nx_op ?_; refine opw_yld (Yld.move rfl) rfl ?_); all_goals (refine nx_op ?_; refine opw_storeAgg rfl rfl rfl (by simp [Value.oneCell']) ?_); all_goals (refine nx_op ?_; refine opw_yld (Yld.assign rfl) rfl ?_); all_goals refine nx_nil ?_; all_goals refine kp_code_normal ?_; all_goals refine nx_ret ?_; all_goals refine kp_blk_ret ?_; all_goals refine kp_code_ret ?_; all_goals (exact resC2 (by first | exact .inl rfl | exact .inr rfl) Tryd.results93 rfl rfl [wc b T.t dir (40 - (fuel : Int))] inferInstance ⟨dir, _, rfl, he, rfl⟩)) | (all_goals refine nx_skip ?_))))
          all_goals refine kp_blk_normal ?_
          all_goals refine kp_code_normal ?_
          all_goals refine nx_seq ?_
          all_goals refine nx_region ?_
          all_goals (refine nx_op ?_; refine opw_yld (Yld.move rfl) rfl ?_)
          all_goals (refine nx_op ?_; refine opw_yld (Yld.nilCheck rfl) rfl ?_)
          all_goals (refine nx_op ?_; refine opw_yld (Yld.fieldAddr rfl) rfl ?_)
          all_goals (refine nx_op ?_; refine opw_yld (Yld.load rfl) rfl ?_)
          all_goals (refine nx_op ?_; refine opw_yld (Yld.move rfl) rfl ?_)
          all_goals (refine nx_op ?_; refine opw_yld (Yld.move rfl) rfl ?_)
          all_goals (refine nx_op ?_; refine opw_yld (Yld.build rfl rfl) rfl ?_)
          all_goals (refine nx_op ?_; refine opw_alc Alc.alloc rfl (fun b12 => ?_))
          all_goals (refine nx_op ?_; refine opw_storeAgg rfl rfl rfl (by simp [Value.oneCell']) ?_)
          all_goals refine nx_nil ?_
          all_goals refine kp_code_normal ?_
          all_goals refine nx_seq ?_
          all_goals refine nx_seq ?_
          all_goals refine nx_region ?_
          all_goals (refine nx_op ?_; refine opw_yld (Yld.move rfl) rfl ?_)
          all_goals (refine nx_op ?_; refine opw_yld (Yld.move rfl) rfl ?_)
          all_goals (refine nx_op ?_; (fail))
          all_goals (refine nx_op ?_; refine opw_yld (Yld.cmp rfl rfl rfl) rfl ?_)
          all_goals (refine nx_op ?_; refine opw_yld (Yld.move rfl) rfl ?_)
          all_goals (first | refine nx_guard_n rfl (by first | rfl | assumption) rfl ?_ | refine nx_guard_u rfl rfl ?_ | ((first | refine nx_guard_y rfl (by first | rfl | assumption) ?_ | refine nx_guard rfl rfl (fun hc => ?_) (fun hc => ?_)); all_goals (first | (refine opw_yld (Yld.move rfl) rfl ?_) | skip)))
          all_goals (first | refine nx_guard_n rfl (by first | rfl | assumption) rfl ?_ | refine nx_guard_u rfl rfl ?_ | ((first | refine nx_guard_y rfl (by first | rfl | assumption) ?_ | refine nx_guard rfl rfl (fun hc => ?_) (fun hc => ?_)); all_goals (first | (refine opw_yld (Yld.move rfl) rfl ?_) | skip)))
          all_goals (first | refine nx_guard_n rfl (by first | rfl | assumption) rfl ?_ | refine nx_guard_u rfl rfl ?_ | ((first | refine nx_guard_y rfl (by first | rfl | assumption) ?_ | refine nx_guard rfl rfl (fun hc => ?_) (fun hc => ?_)); all_goals (first | (refine opw_yld (Yld.move rfl) rfl ?_) | skip)))
          all_goals (first | refine nx_guard_n rfl (by first | rfl | assumption) rfl ?_ | refine nx_guard_u rfl rfl ?_ | ((first | refine nx_guard_y rfl (by first | rfl | assumption) ?_ | refine nx_guard rfl rfl (fun hc => ?_) (fun hc => ?_)); all_goals (first | ((first | refine opw_yld (Yld.pick_t rfl (by first | rfl | assumption) rfl) rfl ?_ | refine opw_yld (Yld.pick_f rfl (by first | rfl | assumption) rfl) rfl ?_)) | skip)))
          all_goals (refine nx_op ?_; (first | refine opw_yld (Yld.pick_t rfl (by first | rfl | assumption) rfl) rfl ?_ | refine opw_yld (Yld.pick_f rfl (by first | rfl | assumption) rfl) rfl ?_))
          all_goals refine nx_nil ?_
          all_goals refine kp_code_normal ?_
          all_goals (refine nx_cond rfl (fun hc => ?_) (fun hc => ?_))
          all_goals (first | (exact Bool.noConfusion (hc.symm.trans (by first | rfl | assumption) : true = false)) | (exact Bool.noConfusion (hc.symm.trans (by first | rfl | assumption) : false = true)) | (all_goals refine nx_seq ?_; all_goals refine nx_seq ?_; all_goals refine nx_region ?_; all_goals (refine nx_op ?_; refine opw_yld (Yld.move rfl) rfl ?_); all_goals (refine nx_op ?_; refine opw_yld (Yld.move rfl) rfl ?_); all_goals (refine nx_op ?_; (fail)); all_goals (refine nx_op ?_; refine opw_yld (Yld.move rfl) rfl ?_); all_goals (refine nx_op ?_; refine opw_yld (Yld.extract rfl rfl) rfl ?_); all_goals (refine nx_op ?_; refine opw_yld (Yld.extract rfl rfl) rfl ?_); all_goals (refine nx_op ?_; refine opw_storeAgg rfl rfl rfl (by simp [Value.oneCell']) ?_); all_goals (refine nx_op ?_; refine opw_yld (Yld.assign rfl) rfl ?_); all_goals refine nx_nil ?_; all_goals refine kp_code_normal ?_; all_goals refine nx_seq ?_; all_goals refine nx_region ?_; all_goals (refine nx_op ?_; refine opw_yld (Yld.move rfl) rfl ?_); all_goals (refine nx_op ?_; refine opw_yld (Yld.cmp rfl rfl rfl) rfl ?_); all_goals refine nx_nil ?_; all_goals refine kp_code_normal ?_; all_goals (refine nx_cond rfl (fun hc => ?_) (fun hc => ?_)); all_goals (first | (exact Bool.noConfusion (hc.symm.trans (by first | rfl | assumption) : true = false)) | (exact Bool.noConfusion (hc.symm.trans (by first | rfl | assumption) : false = true)) | (all_goals refine nx_seq ?_; all_goals refine nx_region ?_; all_goals (refine nx_op ?_; refine opw_yld (Yld.build rfl rfl) rfl ?_); all_goals (refine nx_op ?_; refine opw_yld (Yld.move rfl) rfl ?_); all_goals (refine nx_op ?_; refine opw_storeAgg rfl rfl rfl (by simp [Value.oneCell']) ?_); all_goals (refine nx_op ?_; refine opw_yld (Yld.assign rfl) rfl ?_); all_goals refine nx_nil ?_; all_goals refine kp_code_normal ?_; all_goals refine nx_ret ?_; all_goals refine kp_code_ret ?_; all_goals refine kp_code_ret ?_; all_goals (exact resC2 (by first | exact .inl rfl | exact .inr rfl) Tryd.results93 rfl rfl [wc b T.t dir (40 - (fuel : Int))] inferInstance ⟨dir, _, rfl, he, rfl⟩)) | (all_goals refine nx_skip ?_)); all_goals refine kp_code_normal ?_; all_goals refine nx_seq ?_; all_goals refine nx_region ?_; all_goals (refine nx_op ?_; refine opw_yld (Yld.fieldAddr rfl) rfl ?_); all_goals (refine nx_op ?_; refine opw_yld (Yld.load rfl) rfl ?_); all_goals (refine nx_op ?_; refine opw_yld (Yld.cmp rfl rfl rfl) rfl ?_); all_goals (refine nx_op ?_; refine opw_yld (Yld.move rfl) rfl ?_); all_goals (first | refine nx_guard_n rfl (by first | rfl | assumption) rfl ?_ | refine nx_guard_u rfl rfl ?_ | ((first | refine nx_guard_y rfl (by first | rfl | assumption) ?_ | refine nx_guard rfl rfl (fun hc => ?_) (fun hc => ?_)); all_goals (first | (refine opw_yld (Yld.move rfl) rfl ?_) | skip))); all_goals (refine nx_op ?_; (first | refine opw_yld (Yld.pick_t rfl (by first | rfl | assumption) rfl) rfl ?_ | refine opw_yld (Yld.pick_f rfl (by first | rfl | assumption) rfl) rfl ?_)); all_goals refine nx_nil ?_; all_goals refine kp_code_normal ?_; all_goals (refine nx_cond rfl (fun hc => ?_) (fun hc => ?_)); all_goals (first | (exact Bool.noConfusion (hc.symm.trans (by first | rfl | assumption) : true = false)) | (exact Bool.noConfusion (hc.symm.trans (by first | rfl | assumption) : false = true)) | (all_goals refine nx_seq ?_; all_goals refine nx_region ?_; all_goals (refine nx_op ?_; refine opw_yld (Yld.build rfl rfl) rfl ?_); all_goals (refine nx_op ?_; refine opw_storeAgg rfl rfl rfl (by simp [Value.oneCell']) ?_); all_goals (refine nx_op ?_; refine opw_yld (Yld.assign rfl) rfl ?_); all_goals refine nx_nil ?_; all_goals refine kp_code_normal ?_; all_goals refine nx_ret ?_; all_goals refine kp_code_ret ?_; all_goals (exact resC2 (by first | exact .inl rfl | exact .inr rfl) Tryd.results93 rfl rfl [wc b T.t dir (40 - (fuel : Int))] inferInstance ⟨dir, _, rfl, he, rfl⟩)) | (all_goals refine nx_skip ?_))) | (all_goals refine nx_skip ?_))
          all_goals refine kp_code_normal ?_
          all_goals refine nx_seq ?_
          all_goals refine nx_seq ?_
          all_goals refine nx_region ?_
          all_goals (refine nx_op ?_; refine opw_yld (Yld.move rfl) rfl ?_)
          all_goals (refine nx_op ?_; refine opw_yld (Yld.move rfl) rfl ?_)
          all_goals (first | refine nx_guard_n rfl (by first | rfl | assumption) rfl ?_ | refine nx_guard_u rfl rfl ?_ | ((first | refine nx_guard_y rfl (by first | rfl | assumption) ?_ | refine nx_guard rfl rfl (fun hc => ?_) (fun hc => ?_)); all_goals (first | (refine opw_yld (Yld.move rfl) rfl ?_) | skip)))
          all_goals (first | refine nx_guard_n rfl (by first | rfl | assumption) rfl ?_ | refine nx_guard_u rfl rfl ?_ | ((first | refine nx_guard_y rfl (by first | rfl | assumption) ?_ | refine nx_guard rfl rfl (fun hc => ?_) (fun hc => ?_)); all_goals (first | (refine opw_yld (Yld.fieldAddr rfl) rfl ?_) | skip)))
          all_goals (first | refine nx_guard_n rfl (by first | rfl | assumption) rfl ?_ | refine nx_guard_u rfl rfl ?_ | ((first | refine nx_guard_y rfl (by first | rfl | assumption) ?_ | refine nx_guard rfl rfl (fun hc => ?_) (fun hc => ?_)); all_goals (first | (refine opw_yld (Yld.load rfl) rfl ?_) | skip)))
          all_goals (first | refine nx_guard_n rfl (by first | rfl | assumption) rfl ?_ | refine nx_guard_u rfl rfl ?_ | ((first | refine nx_guard_y rfl (by first | rfl | assumption) ?_ | refine nx_guard rfl rfl (fun hc => ?_) (fun hc => ?_)); all_goals (first | ((fail)) | skip)))
          all_goals (first | refine nx_guard_n rfl (by first | rfl | assumption) rfl ?_ | refine nx_guard_u rfl rfl ?_ | ((first | refine nx_guard_y rfl (by first | rfl | assumption) ?_ | refine nx_guard rfl rfl (fun hc => ?_) (fun hc => ?_)); all_goals (first | (refine opw_yld (Yld.cmp rfl rfl rfl) rfl ?_) | skip)))
          all_goals (refine nx_op ?_; (first | refine opw_yld (Yld.pick_t rfl (by first | rfl | assumption) rfl) rfl ?_ | refine opw_yld (Yld.pick_f rfl (by first | rfl | assumption) rfl) rfl ?_))
          all_goals refine nx_nil ?_
          all_goals refine kp_code_normal ?_
          all_goals (refine nx_cond rfl (fun hc => ?_) (fun hc => ?_))
          all_goals (first | (exact Bool.noConfusion (hc.symm.trans (by first | rfl | assumption) : true = false)) | (exact Bool.noConfusion (hc.symm.trans (by first | rfl | assumption) : false = true)) | (all_goals refine nx_seq ?_; all_goals refine nx_region ?_; all_goals (refine nx_op ?_; refine opw_yld (Yld.build rfl rfl) rfl ?_); all_goals (refine nx_op ?_; refine opw_storeAgg rfl rfl rfl (by simp [Value.oneCell']) ?_); all_goals (refine nx_op ?_; refine opw_yld (Yld.assign rfl) rfl ?_); all_goals refine nx_nil ?_; all_goals refine kp_code_normal ?_; all_goals refine nx_ret ?_; all_goals refine kp_code_ret ?_; all_goals (exact resC2 (by first | exact .inl rfl | exact .inr rfl) Tryd.results93 rfl rfl [wc b T.t dir (40 - (fuel : Int))] inferInstance ⟨dir, _, rfl, he, rfl⟩)) | (all_goals refine nx_skip ?_))
          all_goals refine kp_code_normal ?_
          all_goals refine nx_seq ?_
          all_goals refine nx_region ?_
          all_goals (refine nx_op ?_; refine opw_yld (Yld.loadAgg rfl) rfl ?_)
          all_goals (refine nx_op ?_; refine opw_storeAgg rfl rfl rfl (by simp [Value.oneCell']) ?_)
          all_goals (refine nx_op ?_; refine opw_yld (Yld.assign rfl) rfl ?_)
          all_goals refine nx_nil ?_
          all_goals refine kp_code_normal ?_
          all_goals refine nx_ret ?_
          all_goals (exact resC2 (by first | exact .inl rfl | exact .inr rfl) Tryd.results93 rfl rfl [wc b T.t dir (40 - (fuel : Int))] inferInstance ⟨dir, _, rfl, he, rfl⟩)
        · have hb2 : (e == 2) = false := by simpa using h22
          all_goals refine nx_seq ?_
          all_goals refine nx_region ?_
          all_goals (refine nx_op ?_; refine opw_alc Alc.alloc rfl (fun b8 => ?_))
          all_goals (refine nx_op ?_; refine opw_yld (Yld.assign rfl) rfl ?_)
          all_goals refine nx_nil ?_
          all_goals refine kp_code_normal ?_
          all_goals refine nx_seq ?_
          all_goals refine nx_draw (fun i => match i with | 3 => .read | 7 => .read | 9 => .hard | _ => .stab) [] [0, 1, 2, 3, 4, 5, 6, 7, 8, 9, 10, 11, 12, 13, 14] rfl (by kernel_rfl) inferInstance ?_
          all_goals (refine wk_stab rfl rfl (Yld.move rfl) rfl ?_)
          all_goals (refine wk_stab rfl rfl (Yld.nilCheck rfl) rfl ?_)
          all_goals (refine wk_stab rfl rfl (Yld.fieldAddr rfl) rfl ?_)
          all_goals (refine wk_read rfl rfl (Yld.load rfl) rfl ?_)
          all_goals (refine wk_stab rfl rfl (Yld.move rfl) rfl ?_)
          all_goals (refine wk_stab rfl rfl (Yld.nilCheck rfl) rfl ?_)
          all_goals (refine wk_stab rfl rfl (Yld.fieldAddr rfl) rfl ?_)
          all_goals (refine wk_read rfl rfl (Yld.load rfl) rfl ?_)
          all_goals (refine wk_stab rfl rfl (Yld.move rfl) rfl ?_)
          all_goals ((refine wk_hard rfl rfl ?_; (refine opw_call rfl (sp61 (hT.mono (by simp +contextual)) dir nm) inferInstance rfl ?_; rintro _ _ ⟨rfl, rfl⟩; simp only [List.nil_append, findR_abs, hfd, pairV]); refine nx_keeps inferInstance ?_))
          all_goals (refine wk_stab rfl rfl (Yld.move rfl) rfl ?_)
          all_goals (refine wk_stab rfl rfl (Yld.extract rfl rfl) rfl ?_)
          all_goals (refine wk_stab rfl rfl (Yld.extract rfl rfl) rfl ?_)
          all_goals (refine wk_stab rfl rfl (Yld.assign rfl) rfl ?_)
          all_goals (refine wk_stab rfl rfl (Yld.assign rfl) rfl ?_)
          all_goals refine wk_nil ?_
          all_goals refine kp_code_normal ?_
          all_goals refine nx_seq ?_
          all_goals refine nx_block ?_
          all_goals refine nx_seq ?_
          all_goals refine nx_region ?_
          all_goals (refine nx_op ?_; refine opw_yld (Yld.move rfl) rfl ?_)
          all_goals (refine nx_op ?_; refine opw_yld (Yld.cmp rfl rfl rfl) rfl ?_)
          all_goals (refine nx_op ?_; refine opw_yld (Yld.move rfl) rfl ?_)
          all_goals (first | refine nx_guard_n rfl (by first | rfl | assumption) rfl ?_ | refine nx_guard_u rfl rfl ?_ | ((first | refine nx_guard_y rfl (by first | rfl | assumption) ?_ | refine nx_guard rfl rfl (fun hc => ?_) (fun hc => ?_)); all_goals (first | (refine opw_yld (Yld.move rfl) rfl ?_) | skip)))
          all_goals (first | refine nx_guard_n rfl (by first | rfl | assumption) rfl ?_ | refine nx_guard_u rfl rfl ?_ | ((first | refine nx_guard_y rfl (by first | rfl | assumption) ?_ | refine nx_guard rfl rfl (fun hc => ?_) (fun hc => ?_)); all_goals (first | (refine opw_yld (Yld.not rfl) rfl ?_) | skip)))
          all_goals (refine nx_op ?_; (first | refine opw_yld (Yld.pick_t rfl (by first | rfl | assumption) rfl) rfl ?_ | refine opw_yld (Yld.pick_f rfl (by first | rfl | assumption) rfl) rfl ?_))
          all_goals (refine nx_op ?_; refine opw_yld (Yld.move rfl) rfl ?_)
          all_goals (first | refine nx_guard_n rfl (by first | rfl | assumption) rfl ?_ | refine nx_guard_u rfl rfl ?_ | ((first | refine nx_guard_y rfl (by first | rfl | assumption) ?_ | refine nx_guard rfl rfl (fun hc => ?_) (fun hc => ?_)); all_goals (first | (refine opw_yld (Yld.move rfl) rfl ?_) | skip)))
          all_goals (first | refine nx_guard_n rfl (by first | rfl | assumption) rfl ?_ | refine nx_guard_u rfl rfl ?_ | ((first | refine nx_guard_y rfl (by first | rfl | assumption) ?_ | refine nx_guard rfl rfl (fun hc => ?_) (fun hc => ?_)); all_goals (first | (refine opw_yld (Yld.move rfl) rfl ?_) | skip)))
          all_goals (first | refine nx_guard_n rfl (by first | rfl | assumption) rfl ?_ | refine nx_guard_u rfl rfl ?_ | ((first | refine nx_guard_y rfl (by first | rfl | assumption) ?_ | refine nx_guard rfl rfl (fun hc => ?_) (fun hc => ?_)); all_goals (first | (refine opw_yld (Yld.nilCheck rfl) rfl ?_) | skip)))
          all_goals (first | refine nx_guard_n rfl (by first | rfl | assumption) rfl ?_ | refine nx_guard_u rfl rfl ?_ | ((first | refine nx_guard_y rfl (by first | rfl | assumption) ?_ | refine nx_guard rfl rfl (fun hc => ?_) (fun hc => ?_)); all_goals (first | (refine opw_yld (Yld.fieldAddr rfl) rfl ?_) | skip)))
          all_goals (first | refine nx_guard_n rfl (by first | rfl | assumption) rfl ?_ | refine nx_guard_u rfl rfl ?_ | ((first | refine nx_guard_y rfl (by first | rfl | assumption) ?_ | refine nx_guard rfl rfl (fun hc => ?_) (fun hc => ?_)); all_goals (first | (refine opw_yld (Yld.load rfl) rfl ?_) | skip)))
          all_goals (first | refine nx_guard_n rfl (by first | rfl | assumption) rfl ?_ | refine nx_guard_u rfl rfl ?_ | ((first | refine nx_guard_y rfl (by first | rfl | assumption) ?_ | refine nx_guard rfl rfl (fun hc => ?_) (fun hc => ?_)); all_goals (first | ((fail)) | skip)))
          all_goals (first | refine nx_guard_n rfl (by first | rfl | assumption) rfl ?_ | refine nx_guard_u rfl rfl ?_ | ((first | refine nx_guard_y rfl (by first | rfl | assumption) ?_ | refine nx_guard rfl rfl (fun hc => ?_) (fun hc => ?_)); all_goals (first | (refine opw_yld (Yld.cmp rfl rfl rfl) rfl ?_) | skip)))
          all_goals (refine nx_op ?_; (first | refine opw_yld (Yld.pick_t rfl (by first | rfl | assumption) rfl) rfl ?_ | refine opw_yld (Yld.pick_f rfl (by first | rfl | assumption) rfl) rfl ?_))
          all_goals (refine nx_op ?_; refine opw_yld (Yld.assign rfl) rfl ?_)
          all_goals refine nx_nil ?_
          all_goals refine kp_code_normal ?_
          all_goals (refine nx_cond rfl (fun hc => ?_) (fun hc => ?_))
          all_goals (first | (exact Bool.noConfusion (hc.symm.trans (by first | rfl | assumption) : true = false)) | (exact Bool.noConfusion (hc.symm.trans (by first | rfl | assumption) : false = true)) | (all_goals refine nx_seq ?_; all_goals refine nx_region ?_; all_goals (refine nx_op ?_; refine opw_yld (Yld.move rfl) rfl ?_); all_goals (refine nx_op ?_; refine opw_yld (Yld.nilCheck rfl) rfl ?_); all_goals (refine nx_op ?_; refine opw_yld (Yld.fieldAddr rfl) rfl ?_); all_goals (refine nx_op ?_; refine opw_yld (Yld.load rfl) rfl ?_); all_goals (refine nx_op ?_; refine opw_yld (Yld.move rfl) rfl ?_); all_goals (refine nx_op ?_; refine opw_yld (Yld.build rfl rfl) rfl ?_); all_goals (refine nx_op ?_; refine opw_storeAgg rfl rfl rfl (by simp [Value.oneCell']) ?_); all_goals (refine nx_op ?_; refine opw_yld (Yld.assign rfl) rfl ?_); all_goals refine nx_nil ?_; all_goals refine kp_code_normal ?_; all_goals refine nx_ret ?_; all_goals refine kp_blk_ret ?_; all_goals refine kp_code_ret ?_; all_goals (exact resC2 (by first | exact .inl rfl | exact .inr rfl) Tryd.results93 rfl rfl [wc b T.t dir (40 - (fuel : Int))] inferInstance ⟨dir, _, rfl, he, rfl⟩)) | (all_goals refine nx_seq ?_; all_goals refine nx_region ?_; all_goals (refine nx_op ?_; refine opw_yld (Yld.move rfl) rfl ?_); all_goals (refine nx_op ?_; refine opw_yld (Yld.cmp rfl rfl rfl) rfl ?_); all_goals (refine nx_op ?_; refine opw_yld (Yld.assign rfl) rfl ?_); all_goals refine nx_nil ?_; all_goals refine kp_code_normal ?_; all_goals (refine nx_cond rfl (fun hc => ?_) (fun hc => ?_)); all_goals (first | (exact Bool.noConfusion (hc.symm.trans (by first | rfl | assumption) : true = false)) | (exact Bool.noConfusion (hc.symm.trans (by first | rfl | assumption) : false = true)) | (all_goals refine nx_seq ?_; all_goals refine nx_region ?_; all_goals (refine nx_op ?_; refine opw_yld (Yld.build (cs := [.int .i64 0, .string ⟨#[]⟩, .int .i64 0]) rfl rfl) rfl ?_); all_goals (refine nx_op ?_; refine opw_yld (Yld.move rfl) rfl ?_); all_goals (refine nx_op ?_; refine opw_storeAgg rfl rfl rfl (by simp [Value.oneCell']) ?_); all_goals (refine nx_op ?_; refine opw_yld (Yld.assign rfl) rfl ?_); all_goals refine nx_nil ?_; all_goals refine kp_code_normal ?_; all_goals refine nx_ret ?_; all_goals refine kp_blk_ret ?_; all_goals refine kp_code_ret ?_; all_goals (exact resC2 (by first | exact .inl rfl | exact .inr rfl) Tryd.results93 rfl rfl [wc b T.t dir (40 - (fuel : Int))] inferInstance ⟨dir, _, rfl, he, rfl⟩)) | (all_goals refine nx_skip ?_))))
          all_goals refine kp_blk_normal ?_
          all_goals refine kp_code_normal ?_
          all_goals refine nx_seq ?_
          all_goals refine nx_region ?_
          all_goals (refine nx_op ?_; refine opw_yld (Yld.move rfl) rfl ?_)
          all_goals (refine nx_op ?_; refine opw_yld (Yld.nilCheck rfl) rfl ?_)
          all_goals (refine nx_op ?_; refine opw_yld (Yld.fieldAddr rfl) rfl ?_)
          all_goals (refine nx_op ?_; refine opw_yld (Yld.load rfl) rfl ?_)
          all_goals (refine nx_op ?_; refine opw_yld (Yld.move rfl) rfl ?_)
          all_goals (refine nx_op ?_; refine opw_yld (Yld.move rfl) rfl ?_)
          all_goals (refine nx_op ?_; refine opw_yld (Yld.build rfl rfl) rfl ?_)
          all_goals (refine nx_op ?_; refine opw_alc Alc.alloc rfl (fun b12 => ?_))
          all_goals (refine nx_op ?_; refine opw_storeAgg rfl rfl rfl (by simp [Value.oneCell']) ?_)
          all_goals refine nx_nil ?_
          all_goals refine kp_code_normal ?_
          all_goals refine nx_seq ?_
          all_goals refine nx_seq ?_
          all_goals refine nx_region ?_
          all_goals (refine nx_op ?_; refine opw_yld (Yld.move rfl) rfl ?_)
          all_goals (refine nx_op ?_; refine opw_yld (Yld.move rfl) rfl ?_)
          all_goals (refine nx_op ?_; (fail))
          all_goals (refine nx_op ?_; refine opw_yld (Yld.cmp rfl rfl rfl) rfl ?_)
          all_goals (refine nx_op ?_; refine opw_yld (Yld.move rfl) rfl ?_)
          all_goals (first | refine nx_guard_n rfl (by first | rfl | assumption) rfl ?_ | refine nx_guard_u rfl rfl ?_ | ((first | refine nx_guard_y rfl (by first | rfl | assumption) ?_ | refine nx_guard rfl rfl (fun hc => ?_) (fun hc => ?_)); all_goals (first | (refine opw_yld (Yld.move rfl) rfl ?_) | skip)))
          all_goals (first | refine nx_guard_n rfl (by first | rfl | assumption) rfl ?_ | refine nx_guard_u rfl rfl ?_ | ((first | refine nx_guard_y rfl (by first | rfl | assumption) ?_ | refine nx_guard rfl rfl (fun hc => ?_) (fun hc => ?_)); all_goals (first | (refine opw_yld (Yld.move rfl) rfl ?_) | skip)))
          all_goals (first | refine nx_guard_n rfl (by first | rfl | assumption) rfl ?_ | refine nx_guard_u rfl rfl ?_ | ((first | refine nx_guard_y rfl (by first | rfl | assumption) ?_ | refine nx_guard rfl rfl (fun hc => ?_) (fun hc => ?_)); all_goals (first | (refine opw_yld (Yld.move rfl) rfl ?_) | skip)))
          all_goals (first | refine nx_guard_n rfl (by first | rfl | assumption) rfl ?_ | refine nx_guard_u rfl rfl ?_ | ((first | refine nx_guard_y rfl (by first | rfl | assumption) ?_ | refine nx_guard rfl rfl (fun hc => ?_) (fun hc => ?_)); all_goals (first | ((first | refine opw_yld (Yld.pick_t rfl (by first | rfl | assumption) rfl) rfl ?_ | refine opw_yld (Yld.pick_f rfl (by first | rfl | assumption) rfl) rfl ?_)) | skip)))
          all_goals (refine nx_op ?_; (first | refine opw_yld (Yld.pick_t rfl (by first | rfl | assumption) rfl) rfl ?_ | refine opw_yld (Yld.pick_f rfl (by first | rfl | assumption) rfl) rfl ?_))
          all_goals refine nx_nil ?_
          all_goals refine kp_code_normal ?_
          all_goals (refine nx_cond rfl (fun hc => ?_) (fun hc => ?_))
          all_goals (first | (exact Bool.noConfusion (hc.symm.trans (by first | rfl | assumption) : true = false)) | (exact Bool.noConfusion (hc.symm.trans (by first | rfl | assumption) : false = true)) | (all_goals refine nx_seq ?_; all_goals refine nx_seq ?_; all_goals refine nx_region ?_; all_goals (refine nx_op ?_; refine opw_yld (Yld.move rfl) rfl ?_); all_goals (refine nx_op ?_; refine opw_yld (Yld.move rfl) rfl ?_); all_goals (refine nx_op ?_; (fail)); all_goals (refine nx_op ?_; refine opw_yld (Yld.move rfl) rfl ?_); all_goals (refine nx_op ?_; refine opw_yld (Yld.extract rfl rfl) rfl ?_); all_goals (refine nx_op ?_; refine opw_yld (Yld.extract rfl rfl) rfl ?_); all_goals (refine nx_op ?_; refine opw_storeAgg rfl rfl rfl (by simp [Value.oneCell']) ?_); all_goals (refine nx_op ?_; refine opw_yld (Yld.assign rfl) rfl ?_); all_goals refine nx_nil ?_; all_goals refine kp_code_normal ?_; all_goals refine nx_seq ?_; all_goals refine nx_region ?_; all_goals (refine nx_op ?_; refine opw_yld (Yld.move rfl) rfl ?_); all_goals (refine nx_op ?_; refine opw_yld (Yld.cmp rfl rfl rfl) rfl ?_); all_goals refine nx_nil ?_; all_goals refine kp_code_normal ?_; all_goals (refine nx_cond rfl (fun hc => ?_) (fun hc => ?_)); all_goals (first | (exact Bool.noConfusion (hc.symm.trans (by first | rfl | assumption) : true = false)) | (exact Bool.noConfusion (hc.symm.trans (by first | rfl | assumption) : false = true)) | (all_goals refine nx_seq ?_; all_goals refine nx_region ?_; all_goals (refine nx_op ?_; refine opw_yld (Yld.build rfl rfl) rfl ?_); all_goals (refine nx_op ?_; refine opw_yld (Yld.move rfl) rfl ?_); all_goals (refine nx_op ?_; refine opw_storeAgg rfl rfl rfl (by simp [Value.oneCell']) ?_); all_goals (refine nx_op ?_; refine opw_yld (Yld.assign rfl) rfl ?_); all_goals refine nx_nil ?_; all_goals refine kp_code_normal ?_; all_goals refine nx_ret ?_; all_goals refine kp_code_ret ?_; all_goals refine kp_code_ret ?_; all_goals (exact resC2 (by first | exact .inl rfl | exact .inr rfl) Tryd.results93 rfl rfl [wc b T.t dir (40 - (fuel : Int))] inferInstance ⟨dir, _, rfl, he, rfl⟩)) | (all_goals refine nx_skip ?_)); all_goals refine kp_code_normal ?_; all_goals refine nx_seq ?_; all_goals refine nx_region ?_; all_goals (refine nx_op ?_; refine opw_yld (Yld.fieldAddr rfl) rfl ?_); all_goals (refine nx_op ?_; refine opw_yld (Yld.load rfl) rfl ?_); all_goals (refine nx_op ?_; refine opw_yld (Yld.cmp rfl rfl rfl) rfl ?_); all_goals (refine nx_op ?_; refine opw_yld (Yld.move rfl) rfl ?_); all_goals (first | refine nx_guard_n rfl (by first | rfl | assumption) rfl ?_ | refine nx_guard_u rfl rfl ?_ | ((first | refine nx_guard_y rfl (by first | rfl | assumption) ?_ | refine nx_guard rfl rfl (fun hc => ?_) (fun hc => ?_)); all_goals (first | (refine opw_yld (Yld.move rfl) rfl ?_) | skip))); all_goals (refine nx_op ?_; (first | refine opw_yld (Yld.pick_t rfl (by first | rfl | assumption) rfl) rfl ?_ | refine opw_yld (Yld.pick_f rfl (by first | rfl | assumption) rfl) rfl ?_)); all_goals refine nx_nil ?_; all_goals refine kp_code_normal ?_; all_goals (refine nx_cond rfl (fun hc => ?_) (fun hc => ?_)); all_goals (first | (exact Bool.noConfusion (hc.symm.trans (by first | rfl | assumption) : true = false)) | (exact Bool.noConfusion (hc.symm.trans (by first | rfl | assumption) : false = true)) | (all_goals refine nx_seq ?_; all_goals refine nx_region ?_; all_goals (refine nx_op ?_; refine opw_yld (Yld.build rfl rfl) rfl ?_); all_goals (refine nx_op ?_; refine opw_storeAgg rfl rfl rfl (by simp [Value.oneCell']) ?_); all_goals (refine nx_op ?_; refine opw_yld (Yld.assign rfl) rfl ?_); all_goals refine nx_nil ?_; all_goals refine kp_code_normal ?_; all_goals refine nx_ret ?_; all_goals refine kp_code_ret ?_; all_goals (exact resC2 (by first | exact .inl rfl | exact .inr rfl) Tryd.results93 rfl rfl [wc b T.t dir (40 - (fuel : Int))] inferInstance ⟨dir, _, rfl, he, rfl⟩)) | (all_goals refine nx_skip ?_))) | (all_goals refine nx_skip ?_))
          all_goals refine kp_code_normal ?_
          all_goals refine nx_seq ?_
          all_goals refine nx_seq ?_
          all_goals refine nx_region ?_
          all_goals (refine nx_op ?_; refine opw_yld (Yld.move rfl) rfl ?_)
          all_goals (refine nx_op ?_; refine opw_yld (Yld.move rfl) rfl ?_)
          all_goals (first | refine nx_guard_n rfl (by first | rfl | assumption) rfl ?_ | refine nx_guard_u rfl rfl ?_ | ((first | refine nx_guard_y rfl (by first | rfl | assumption) ?_ | refine nx_guard rfl rfl (fun hc => ?_) (fun hc => ?_)); all_goals (first | (refine opw_yld (Yld.move rfl) rfl ?_) | skip)))
          all_goals (first | refine nx_guard_n rfl (by first | rfl | assumption) rfl ?_ | refine nx_guard_u rfl rfl ?_ | ((first | refine nx_guard_y rfl (by first | rfl | assumption) ?_ | refine nx_guard rfl rfl (fun hc => ?_) (fun hc => ?_)); all_goals (first | (refine opw_yld (Yld.fieldAddr rfl) rfl ?_) | skip)))
          all_goals (first | refine nx_guard_n rfl (by first | rfl | assumption) rfl ?_ | refine nx_guard_u rfl rfl ?_ | ((first | refine nx_guard_y rfl (by first | rfl | assumption) ?_ | refine nx_guard rfl rfl (fun hc => ?_) (fun hc => ?_)); all_goals (first | (refine opw_yld (Yld.load rfl) rfl ?_) | skip)))
          all_goals (first | refine nx_guard_n rfl (by first | rfl | assumption) rfl ?_ | refine nx_guard_u rfl rfl ?_ | ((first | refine nx_guard_y rfl (by first | rfl | assumption) ?_ | refine nx_guard rfl rfl (fun hc => ?_) (fun hc => ?_)); all_goals (first | ((fail)) | skip)))
          all_goals (first | refine nx_guard_n rfl (by first | rfl | assumption) rfl ?_ | refine nx_guard_u rfl rfl ?_ | ((first | refine nx_guard_y rfl (by first | rfl | assumption) ?_ | refine nx_guard rfl rfl (fun hc => ?_) (fun hc => ?_)); all_goals (first | (refine opw_yld (Yld.cmp rfl rfl rfl) rfl ?_) | skip)))
          all_goals (refine nx_op ?_; (first | refine opw_yld (Yld.pick_t rfl (by first | rfl | assumption) rfl) rfl ?_ | refine opw_yld (Yld.pick_f rfl (by first | rfl | assumption) rfl) rfl ?_))
          all_goals refine nx_nil ?_
          all_goals refine kp_code_normal ?_
          all_goals (refine nx_cond rfl (fun hc => ?_) (fun hc => ?_))
          all_goals (first | (exact Bool.noConfusion (hc.symm.trans (by first | rfl | assumption) : true = false)) | (exact Bool.noConfusion (hc.symm.trans (by first | rfl | assumption) : false = true)) | (all_goals refine nx_seq ?_; all_goals refine nx_region ?_; all_goals (refine nx_op ?_; refine opw_yld (Yld.build rfl rfl) rfl ?_); all_goals (refine nx_op ?_; refine opw_storeAgg rfl rfl rfl (by simp [Value.oneCell']) ?_); all_goals (refine nx_op ?_; refine opw_yld (Yld.assign rfl) rfl ?_); all_goals refine nx_nil ?_; all_goals refine kp_code_normal ?_; all_goals refine nx_ret ?_; all_goals refine kp_code_ret ?_; all_goals (exact resC2 (by first | exact .inl rfl | exact .inr rfl) Tryd.results93 rfl rfl [wc b T.t dir (40 - (fuel : Int))] inferInstance ⟨dir, _, rfl, he, rfl⟩)) | (all_goals refine nx_skip ?_))
          all_goals refine kp_code_normal ?_
          all_goals refine nx_seq ?_
          all_goals refine nx_region ?_
          all_goals (refine nx_op ?_; refine opw_yld (Yld.loadAgg rfl) rfl ?_)
          all_goals (refine nx_op ?_; refine opw_storeAgg rfl rfl rfl (by simp [Value.oneCell']) ?_)
          all_goals (refine nx_op ?_; refine opw_yld (Yld.assign rfl) rfl ?_)
          all_goals refine nx_nil ?_
          all_goals refine kp_code_normal ?_
          all_goals refine nx_ret ?_
          all_goals (exact resC2 (by first | exact .inl rfl | exact .inr rfl) Tryd.results93 rfl rfl [wc b T.t dir (40 - (fuel : Int))] inferInstance ⟨dir, _, rfl, he, rfl⟩)
  subst he
  by_cases hk : kindA (abs T.S) n = 3 ∧ (fol = true ∨ isDir = true)
  case neg =>
    by_cases hd : isDir = true ∧ kindA (abs T.S) n ≠ 2
    · have hr : lastA (abs T.S) R dir (bs nm) fol isDir fuel = .error 20 := by
        unfold lastA; rw [hfd]; simp only; rw [if_neg (by simp), if_neg (by simp), if_neg hk, if_pos hd]
      obtain ⟨rfl, hk2⟩ := hd
      have hb : (kindA (abs T.S) n == 3) = false := by simpa using hk
      have hb2 : (kindA (abs T.S) n != 2) = true := by simpa using hk2
      rw [hr]
      all_goals refine nx_seq ?_
      all_goals refine nx_region ?_
      all_goals (refine nx_op ?_; refine opw_alc Alc.alloc rfl (fun b8 => ?_))
      all_goals (refine nx_op ?_; refine opw_yld (Yld.assign rfl) rfl ?_)
      all_goals refine nx_nil ?_
      all_goals refine kp_code_normal ?_
      all_goals refine nx_seq ?_
      all_goals refine nx_draw (fun i => match i with | 3 => .read | 7 => .read | 9 => .hard | _ => .stab) [] [0, 1, 2, 3, 4, 5, 6, 7, 8, 9, 10, 11, 12, 13, 14] rfl (by kernel_rfl) inferInstance ?_
      all_goals (refine wk_stab rfl rfl (Yld.move rfl) rfl ?_)
      all_goals (refine wk_stab rfl rfl (Yld.nilCheck rfl) rfl ?_)
      all_goals (refine wk_stab rfl rfl (Yld.fieldAddr rfl) rfl ?_)
      all_goals (refine wk_read rfl rfl (Yld.load rfl) rfl ?_)
      all_goals (refine wk_stab rfl rfl (Yld.move rfl) rfl ?_)
      all_goals (refine wk_stab rfl rfl (Yld.nilCheck rfl) rfl ?_)
      all_goals (refine wk_stab rfl rfl (Yld.fieldAddr rfl) rfl ?_)
      all_goals (refine wk_read rfl rfl (Yld.load rfl) rfl ?_)
      all_goals (refine wk_stab rfl rfl (Yld.move rfl) rfl ?_)
      all_goals ((refine wk_hard rfl rfl ?_; (refine opw_call rfl (sp61 (hT.mono (by simp +contextual)) dir nm) inferInstance rfl ?_; rintro _ _ ⟨rfl, rfl⟩; simp only [List.nil_append, findR_abs, hfd, pairV]); refine nx_keeps inferInstance ?_))
      all_goals (refine wk_stab rfl rfl (Yld.move rfl) rfl ?_)
      all_goals (refine wk_stab rfl rfl (Yld.extract rfl rfl) rfl ?_)
      all_goals (refine wk_stab rfl rfl (Yld.extract rfl rfl) rfl ?_)
      all_goals (refine wk_stab rfl rfl (Yld.assign rfl) rfl ?_)
      all_goals (refine wk_stab rfl rfl (Yld.assign rfl) rfl ?_)
      all_goals refine wk_nil ?_
      all_goals refine kp_code_normal ?_
      all_goals refine nx_seq ?_
      all_goals refine nx_block ?_
      all_goals refine nx_seq ?_
      all_goals refine nx_region ?_
      all_goals (refine nx_op ?_; refine opw_yld (Yld.move rfl) rfl ?_)
      all_goals (refine nx_op ?_; refine opw_yld (Yld.cmp rfl rfl rfl) rfl ?_)
      all_goals (refine nx_op ?_; refine opw_yld (Yld.move rfl) rfl ?_)
      all_goals (first | refine nx_guard_n rfl (by first | rfl | assumption) rfl ?_ | refine nx_guard_u rfl rfl ?_ | ((first | refine nx_guard_y rfl (by first | rfl | assumption) ?_ | refine nx_guard rfl rfl (fun hc => ?_) (fun hc => ?_)); all_goals (first | (refine opw_yld (Yld.move rfl) rfl ?_) | skip)))
      all_goals (first | refine nx_guard_n rfl (by first | rfl | assumption) rfl ?_ | refine nx_guard_u rfl rfl ?_ | ((first | refine nx_guard_y rfl (by first | rfl | assumption) ?_ | refine nx_guard rfl rfl (fun hc => ?_) (fun hc => ?_)); all_goals (first | (refine opw_yld (Yld.not rfl) rfl ?_) | skip)))
      all_goals (refine nx_op ?_; (first | refine opw_yld (Yld.pick_t rfl (by first | rfl | assumption) rfl) rfl ?_ | refine opw_yld (Yld.pick_f rfl (by first | rfl | assumption) rfl) rfl ?_))
      all_goals (refine nx_op ?_; refine opw_yld (Yld.move rfl) rfl ?_)
      all_goals (first | refine nx_guard_n rfl (by first | rfl | assumption) rfl ?_ | refine nx_guard_u rfl rfl ?_ | ((first | refine nx_guard_y rfl (by first | rfl | assumption) ?_ | refine nx_guard rfl rfl (fun hc => ?_) (fun hc => ?_)); all_goals (first | (refine opw_yld (Yld.move rfl) rfl ?_) | skip)))
      all_goals (first | refine nx_guard_n rfl (by first | rfl | assumption) rfl ?_ | refine nx_guard_u rfl rfl ?_ | ((first | refine nx_guard_y rfl (by first | rfl | assumption) ?_ | refine nx_guard rfl rfl (fun hc => ?_) (fun hc => ?_)); all_goals (first | (refine opw_yld (Yld.move rfl) rfl ?_) | skip)))
      all_goals (first | refine nx_guard_n rfl (by first | rfl | assumption) rfl ?_ | refine nx_guard_u rfl rfl ?_ | ((first | refine nx_guard_y rfl (by first | rfl | assumption) ?_ | refine nx_guard rfl rfl (fun hc => ?_) (fun hc => ?_)); all_goals (first | (refine opw_yld (Yld.nilCheck rfl) rfl ?_) | skip)))
      all_goals (first | refine nx_guard_n rfl (by first | rfl | assumption) rfl ?_ | refine nx_guard_u rfl rfl ?_ | ((first | refine nx_guard_y rfl (by first | rfl | assumption) ?_ | refine nx_guard rfl rfl (fun hc => ?_) (fun hc => ?_)); all_goals (first | (refine opw_yld (Yld.fieldAddr rfl) rfl ?_) | skip)))
      all_goals (first | refine nx_guard_n rfl (by first | rfl | assumption) rfl ?_ | refine nx_guard_u rfl rfl ?_ | ((first | refine nx_guard_y rfl (by first | rfl | assumption) ?_ | refine nx_guard rfl rfl (fun hc => ?_) (fun hc => ?_)); all_goals (first | (refine opw_yld (Yld.load rfl) rfl ?_) | skip)))
      all_goals (first | refine nx_guard_n rfl (by first | rfl | assumption) rfl ?_ | refine nx_guard_u rfl rfl ?_ | ((first | refine nx_guard_y rfl (by first | rfl | assumption) ?_ | refine nx_guard rfl rfl (fun hc => ?_) (fun hc => ?_)); all_goals (first | ((refine opw_call rfl (sp130 (hT.mono (by simp +contextual)) _ (b := b) (hb := by intro y hy; simp only [wc, List.mem_singleton] at hy; subst hy; simp; first | exact ⟨rfl, rfl⟩ | exact Or.inl ⟨rfl, rfl⟩ | exact Or.inr (Or.inl ⟨rfl, rfl⟩))) inferInstance rfl ?_; rintro _ _ ⟨rfl, rfl⟩; simp only [List.nil_append])) | skip)))
      all_goals (first | refine nx_guard_n rfl (by first | rfl | assumption) rfl ?_ | refine nx_guard_u rfl rfl ?_ | ((first | refine nx_guard_y rfl (by first | rfl | assumption) ?_ | refine nx_guard rfl rfl (fun hc => ?_) (fun hc => ?_)); all_goals (first | (refine opw_yld (Yld.cmp rfl rfl rfl) rfl ?_) | skip)))
      all_goals (refine nx_op ?_; (first | refine opw_yld (Yld.pick_t rfl (by first | rfl | assumption) rfl) rfl ?_ | refine opw_yld (Yld.pick_f rfl (by first | rfl | assumption) rfl) rfl ?_))
      all_goals (refine nx_op ?_; refine opw_yld (Yld.assign rfl) rfl ?_)
      all_goals refine nx_nil ?_
      all_goals refine kp_code_normal ?_
      all_goals (refine nx_cond rfl (fun hc => ?_) (fun hc => ?_))
      all_goals (first | (exact Bool.noConfusion (hc.symm.trans (by first | rfl | assumption) : true = false)) | (exact Bool.noConfusion (hc.symm.trans (by first | rfl | assumption) : false = true)) | (all_goals refine nx_seq ?_; all_goals refine nx_region ?_; all_goals (refine nx_op ?_; refine opw_yld (Yld.move rfl) rfl ?_); all_goals (refine nx_op ?_; refine opw_yld (Yld.nilCheck rfl) rfl ?_); all_goals (refine nx_op ?_; refine opw_yld (Yld.fieldAddr rfl) rfl ?_); all_goals (refine nx_op ?_; refine opw_yld (Yld.load rfl) rfl ?_); all_goals (refine nx_op ?_; refine opw_yld (Yld.move rfl) rfl ?_); all_goals (refine nx_op ?_; refine opw_yld (Yld.build rfl rfl) rfl ?_); all_goals (refine nx_op ?_; refine opw_storeAgg rfl rfl rfl (by simp [Value.oneCell']) ?_); all_goals (refine nx_op ?_; refine opw_yld (Yld.assign rfl) rfl ?_); all_goals refine nx_nil ?_; all_goals refine kp_code_normal ?_; all_goals refine nx_ret ?_; all_goals refine kp_blk_ret ?_; all_goals refine kp_code_ret ?_; all_goals (exact resC2 (by first | exact .inl rfl | exact .inr rfl) Tryd.results93 rfl rfl [wc b T.t dir (40 - (fuel : Int))] inferInstance ⟨dir, _, rfl, by decide, rfl⟩)) | (all_goals refine nx_seq ?_; all_goals refine nx_region ?_; all_goals (refine nx_op ?_; refine opw_yld (Yld.move rfl) rfl ?_); all_goals (refine nx_op ?_; refine opw_yld (Yld.cmp rfl rfl rfl) rfl ?_); all_goals (refine nx_op ?_; refine opw_yld (Yld.assign rfl) rfl ?_); all_goals refine nx_nil ?_; all_goals refine kp_code_normal ?_; all_goals (refine nx_cond rfl (fun hc => ?_) (fun hc => ?_)); all_goals (first | (exact Bool.noConfusion (hc.symm.trans (by first | rfl | assumption) : true = false)) | (exact Bool.noConfusion (hc.symm.trans (by first | rfl | assumption) : false = true)) | (all_goals refine nx_seq ?_; all_goals refine nx_region ?_; all_goals (refine nx_op ?_; refine opw_yld (Yld.build rfl rfl) rfl ?_); all_goals (refine nx_op ?_; refine opw_yld (Yld.move rfl) rfl ?_); all_goals (refine nx_op ?_; refine opw_storeAgg rfl rfl rfl (by simp [Value.oneCell']) ?_); all_goals (refine nx_op ?_; refine opw_yld (Yld.assign rfl) rfl ?_); all_goals refine nx_nil ?_; all_goals refine kp_code_normal ?_; all_goals refine nx_ret ?_; all_goals refine kp_blk_ret ?_; all_goals refine kp_code_ret ?_; all_goals (exact resC2 (by first | exact .inl rfl | exact .inr rfl) Tryd.results93 rfl rfl [wc b T.t dir (40 - (fuel : Int))] inferInstance ⟨dir, _, rfl, by decide, rfl⟩)) | (all_goals refine nx_skip ?_))))
      all_goals refine kp_blk_normal ?_
      all_goals refine kp_code_normal ?_
      all_goals refine nx_seq ?_
      all_goals refine nx_region ?_
      all_goals (refine nx_op ?_; refine opw_yld (Yld.move rfl) rfl ?_)
      all_goals (refine nx_op ?_; refine opw_yld (Yld.nilCheck rfl) rfl ?_)
      all_goals (refine nx_op ?_; refine opw_yld (Yld.fieldAddr rfl) rfl ?_)
      all_goals (refine nx_op ?_; refine opw_yld (Yld.load rfl) rfl ?_)
      all_goals (refine nx_op ?_; refine opw_yld (Yld.move rfl) rfl ?_)
      all_goals (refine nx_op ?_; refine opw_yld (Yld.move rfl) rfl ?_)
      all_goals (refine nx_op ?_; refine opw_yld (Yld.build (cs := [.int .i64 dir, .string nm, .int .i64 n]) rfl rfl) rfl ?_)
      all_goals (refine nx_op ?_; refine opw_alc Alc.alloc rfl (fun b12 => ?_))
      all_goals (refine nx_op ?_; refine opw_storeAgg rfl rfl rfl (by simp [Value.oneCell']) ?_)
      all_goals refine nx_nil ?_
      all_goals refine kp_code_normal ?_
      all_goals refine nx_seq ?_
      all_goals refine nx_seq ?_
      all_goals refine nx_region ?_
      all_goals (refine nx_op ?_; refine opw_yld (Yld.move rfl) rfl ?_)
      all_goals (refine nx_op ?_; refine opw_yld (Yld.move rfl) rfl ?_)
      all_goals (refine nx_op ?_; (refine opw_call rfl (sp130 (hT.mono (by simp +contextual)) _ (b := b) (hb := by intro y hy; simp only [wc, List.mem_singleton] at hy; subst hy; simp; first | exact ⟨rfl, rfl⟩ | exact Or.inl ⟨rfl, rfl⟩ | exact Or.inr (Or.inl ⟨rfl, rfl⟩))) inferInstance rfl ?_; rintro _ _ ⟨rfl, rfl⟩; simp only [List.nil_append]))
      all_goals (refine nx_op ?_; refine opw_yld (Yld.cmp rfl rfl rfl) rfl ?_)
      all_goals (refine nx_op ?_; refine opw_yld (Yld.move rfl) rfl ?_)
      all_goals (first | refine nx_guard_n rfl (by first | rfl | assumption) rfl ?_ | refine nx_guard_u rfl rfl ?_ | ((first | refine nx_guard_y rfl (by first | rfl | assumption) ?_ | refine nx_guard rfl rfl (fun hc => ?_) (fun hc => ?_)); all_goals (first | (refine opw_yld (Yld.move rfl) rfl ?_) | skip)))
      all_goals (first | refine nx_guard_n rfl (by first | rfl | assumption) rfl ?_ | refine nx_guard_u rfl rfl ?_ | ((first | refine nx_guard_y rfl (by first | rfl | assumption) ?_ | refine nx_guard rfl rfl (fun hc => ?_) (fun hc => ?_)); all_goals (first | (refine opw_yld (Yld.move rfl) rfl ?_) | skip)))
      all_goals (first | refine nx_guard_n rfl (by first | rfl | assumption) rfl ?_ | refine nx_guard_u rfl rfl ?_ | ((first | refine nx_guard_y rfl (by first | rfl | assumption) ?_ | refine nx_guard rfl rfl (fun hc => ?_) (fun hc => ?_)); all_goals (first | (refine opw_yld (Yld.move rfl) rfl ?_) | skip)))
      all_goals (first | refine nx_guard_n rfl (by first | rfl | assumption) rfl ?_ | refine nx_guard_u rfl rfl ?_ | ((first | refine nx_guard_y rfl (by first | rfl | assumption) ?_ | refine nx_guard rfl rfl (fun hc => ?_) (fun hc => ?_)); all_goals (first | ((first | refine opw_yld (Yld.pick_t rfl (by first | rfl | assumption) rfl) rfl ?_ | refine opw_yld (Yld.pick_f rfl (by first | rfl | assumption) rfl) rfl ?_)) | skip)))
      all_goals (refine nx_op ?_; (first | refine opw_yld (Yld.pick_t rfl (by first | rfl | assumption) rfl) rfl ?_ | refine opw_yld (Yld.pick_f rfl (by first | rfl | assumption) rfl) rfl ?_))
      all_goals refine nx_nil ?_
      all_goals refine kp_code_normal ?_
      all_goals (refine nx_cond rfl (fun hc => ?_) (fun hc => ?_))
      all_goals (first | (exact Bool.noConfusion (hc.symm.trans (by first | rfl | assumption) : true = false)) | (exact Bool.noConfusion (hc.symm.trans (by first | rfl | assumption) : false = true)) | (all_goals refine nx_seq ?_; all_goals refine nx_seq ?_; all_goals refine nx_region ?_; all_goals (refine nx_op ?_; refine opw_yld (Yld.move rfl) rfl ?_); all_goals (refine nx_op ?_; refine opw_yld (Yld.move rfl) rfl ?_); all_goals (refine nx_op ?_; (fail)); all_goals (refine nx_op ?_; refine opw_yld (Yld.move rfl) rfl ?_); all_goals (refine nx_op ?_; refine opw_yld (Yld.extract rfl rfl) rfl ?_); all_goals (refine nx_op ?_; refine opw_yld (Yld.extract rfl rfl) rfl ?_); all_goals (refine nx_op ?_; refine opw_storeAgg rfl rfl rfl (by simp [Value.oneCell']) ?_); all_goals (refine nx_op ?_; refine opw_yld (Yld.assign rfl) rfl ?_); all_goals refine nx_nil ?_; all_goals refine kp_code_normal ?_; all_goals refine nx_seq ?_; all_goals refine nx_region ?_; all_goals (refine nx_op ?_; refine opw_yld (Yld.move rfl) rfl ?_); all_goals (refine nx_op ?_; refine opw_yld (Yld.cmp rfl rfl rfl) rfl ?_); all_goals refine nx_nil ?_; all_goals refine kp_code_normal ?_; all_goals (refine nx_cond rfl (fun hc => ?_) (fun hc => ?_)); all_goals (first | (exact Bool.noConfusion (hc.symm.trans (by first | rfl | assumption) : true = false)) | (exact Bool.noConfusion (hc.symm.trans (by first | rfl | assumption) : false = true)) | (all_goals refine nx_seq ?_; all_goals refine nx_region ?_; all_goals (refine nx_op ?_; refine opw_yld (Yld.build rfl rfl) rfl ?_); all_goals (refine nx_op ?_; refine opw_yld (Yld.move rfl) rfl ?_); all_goals (refine nx_op ?_; refine opw_storeAgg rfl rfl rfl (by simp [Value.oneCell']) ?_); all_goals (refine nx_op ?_; refine opw_yld (Yld.assign rfl) rfl ?_); all_goals refine nx_nil ?_; all_goals refine kp_code_normal ?_; all_goals refine nx_ret ?_; all_goals refine kp_code_ret ?_; all_goals refine kp_code_ret ?_; all_goals (exact resC2 (by first | exact .inl rfl | exact .inr rfl) Tryd.results93 rfl rfl [wc b T.t dir (40 - (fuel : Int))] inferInstance ⟨dir, _, rfl, by decide, rfl⟩)) | (all_goals refine nx_skip ?_)); all_goals refine kp_code_normal ?_; all_goals refine nx_seq ?_; all_goals refine nx_region ?_; all_goals (refine nx_op ?_; refine opw_yld (Yld.fieldAddr rfl) rfl ?_); all_goals (refine nx_op ?_; refine opw_yld (Yld.load rfl) rfl ?_); all_goals (refine nx_op ?_; refine opw_yld (Yld.cmp rfl rfl rfl) rfl ?_); all_goals (refine nx_op ?_; refine opw_yld (Yld.move rfl) rfl ?_); all_goals (first | refine nx_guard_n rfl (by first | rfl | assumption) rfl ?_ | refine nx_guard_u rfl rfl ?_ | ((first | refine nx_guard_y rfl (by first | rfl | assumption) ?_ | refine nx_guard rfl rfl (fun hc => ?_) (fun hc => ?_)); all_goals (first | (refine opw_yld (Yld.move rfl) rfl ?_) | skip))); all_goals (refine nx_op ?_; (first | refine opw_yld (Yld.pick_t rfl (by first | rfl | assumption) rfl) rfl ?_ | refine opw_yld (Yld.pick_f rfl (by first | rfl | assumption) rfl) rfl ?_)); all_goals refine nx_nil ?_; all_goals refine kp_code_normal ?_; all_goals (refine nx_cond rfl (fun hc => ?_) (fun hc => ?_)); all_goals (first | (exact Bool.noConfusion (hc.symm.trans (by first | rfl | assumption) : true = false)) | (exact Bool.noConfusion (hc.symm.trans (by first | rfl | assumption) : false = true)) | (all_goals refine nx_seq ?_; all_goals refine nx_region ?_; all_goals (refine nx_op ?_; refine opw_yld (Yld.build rfl rfl) rfl ?_); all_goals (refine nx_op ?_; refine opw_storeAgg rfl rfl rfl (by simp [Value.oneCell']) ?_); all_goals (refine nx_op ?_; refine opw_yld (Yld.assign rfl) rfl ?_); all_goals refine nx_nil ?_; all_goals refine kp_code_normal ?_; all_goals refine nx_ret ?_; all_goals refine kp_code_ret ?_; all_goals (exact resC2 (by first | exact .inl rfl | exact .inr rfl) Tryd.results93 rfl rfl [wc b T.t dir (40 - (fuel : Int))] inferInstance ⟨dir, _, rfl, by decide, rfl⟩)) | (all_goals refine nx_skip ?_))) | (all_goals refine nx_skip ?_))
      all_goals refine kp_code_normal ?_
      all_goals refine nx_seq ?_
      all_goals refine nx_seq ?_
      all_goals refine nx_region ?_
      all_goals (refine nx_op ?_; refine opw_yld (Yld.move rfl) rfl ?_)
      all_goals (refine nx_op ?_; refine opw_yld (Yld.move rfl) rfl ?_)
      all_goals (first | refine nx_guard_n rfl (by first | rfl | assumption) rfl ?_ | refine nx_guard_u rfl rfl ?_ | ((first | refine nx_guard_y rfl (by first | rfl | assumption) ?_ | refine nx_guard rfl rfl (fun hc => ?_) (fun hc => ?_)); all_goals (first | (refine opw_yld (Yld.move rfl) rfl ?_) | skip)))
      all_goals (first | refine nx_guard_n rfl (by first | rfl | assumption) rfl ?_ | refine nx_guard_u rfl rfl ?_ | ((first | refine nx_guard_y rfl (by first | rfl | assumption) ?_ | refine nx_guard rfl rfl (fun hc => ?_) (fun hc => ?_)); all_goals (first | (refine opw_yld (Yld.fieldAddr rfl) rfl ?_) | skip)))
      all_goals (first | refine nx_guard_n rfl (by first | rfl | assumption) rfl ?_ | refine nx_guard_u rfl rfl ?_ | ((first | refine nx_guard_y rfl (by first | rfl | assumption) ?_ | refine nx_guard rfl rfl (fun hc => ?_) (fun hc => ?_)); all_goals (first | (refine opw_yld (Yld.load rfl) rfl ?_) | skip)))
      all_goals (first | refine nx_guard_n rfl (by first | rfl | assumption) rfl ?_ | refine nx_guard_u rfl rfl ?_ | ((first | refine nx_guard_y rfl (by first | rfl | assumption) ?_ | refine nx_guard rfl rfl (fun hc => ?_) (fun hc => ?_)); all_goals (first | ((refine opw_call rfl (sp130 (hT.mono (by simp +contextual)) _ (b := b) (hb := by intro y hy; simp only [wc, List.mem_singleton] at hy; subst hy; simp; first | exact ⟨rfl, rfl⟩ | exact Or.inl ⟨rfl, rfl⟩ | exact Or.inr (Or.inl ⟨rfl, rfl⟩))) inferInstance rfl ?_; rintro _ _ ⟨rfl, rfl⟩; simp only [List.nil_append])) | skip)))
      all_goals (first | refine nx_guard_n rfl (by first | rfl | assumption) rfl ?_ | refine nx_guard_u rfl rfl ?_ | ((first | refine nx_guard_y rfl (by first | rfl | assumption) ?_ | refine nx_guard rfl rfl (fun hc => ?_) (fun hc => ?_)); all_goals (first | (refine opw_yld (Yld.cmp rfl rfl rfl) rfl ?_) | skip)))
      all_goals (refine nx_op ?_; (first | refine opw_yld (Yld.pick_t rfl (by first | rfl | assumption) rfl) rfl ?_ | refine opw_yld (Yld.pick_f rfl (by first | rfl | assumption) rfl) rfl ?_))
      all_goals refine nx_nil ?_
      all_goals refine kp_code_normal ?_
      all_goals (refine nx_cond rfl (fun hc => ?_) (fun hc => ?_))
      all_goals (first | (exact Bool.noConfusion (hc.symm.trans (by first | rfl | assumption) : true = false)) | (exact Bool.noConfusion (hc.symm.trans (by first | rfl | assumption) : false = true)) | (all_goals refine nx_seq ?_; all_goals refine nx_region ?_; all_goals (refine nx_op ?_; refine opw_yld (Yld.build (cs := [.int .i64 0, .string ⟨#[]⟩, .int .i64 0]) rfl rfl) rfl ?_); all_goals (refine nx_op ?_; refine opw_storeAgg rfl rfl rfl (by simp [Value.oneCell']) ?_); all_goals (refine nx_op ?_; refine opw_yld (Yld.assign rfl) rfl ?_); all_goals refine nx_nil ?_; all_goals refine kp_code_normal ?_; all_goals refine nx_ret ?_; all_goals refine kp_code_ret ?_; all_goals (exact resC2 (by first | exact .inl rfl | exact .inr rfl) Tryd.results93 rfl rfl [wc b T.t dir (40 - (fuel : Int))] inferInstance ⟨dir, _, rfl, by decide, rfl⟩)) | (all_goals refine nx_skip ?_))
      all_goals refine kp_code_normal ?_
      all_goals refine nx_seq ?_
      all_goals refine nx_region ?_
      all_goals (refine nx_op ?_; refine opw_yld (Yld.loadAgg rfl) rfl ?_)
      all_goals (refine nx_op ?_; refine opw_storeAgg rfl rfl rfl (by simp [Value.oneCell']) ?_)
      all_goals (refine nx_op ?_; refine opw_yld (Yld.assign rfl) rfl ?_)
      all_goals refine nx_nil ?_
      all_goals refine kp_code_normal ?_
      all_goals refine nx_ret ?_
      all_goals (exact resC2 (by first | exact .inl rfl | exact .inr rfl) Tryd.results93 rfl rfl [wc b T.t dir (40 - (fuel : Int))] inferInstance ⟨dir, _, rfl, by decide, rfl⟩)
    · have hr : lastA (abs T.S) R dir (bs nm) fol isDir fuel = .ok ((dir, bs nm, n), fuel) := by
        unfold lastA; rw [hfd]; simp only; rw [if_neg (by simp), if_neg (by simp), if_neg hk, if_neg hd]
      rw [hr]
      cases isDir with
      | true =>
        have hk2 : kindA (abs T.S) n = 2 := by simpa using hd
        have hb : (kindA (abs T.S) n == 3) = false := by simp [hk2]
        have hb2 : (kindA (abs T.S) n != 2) = false := by simp [hk2]
        all_goals refine nx_seq ?_
        all_goals refine nx_region ?_
        all_goals (refine nx_op ?_; refine opw_alc Alc.alloc rfl (fun b8 => ?_))
        all_goals (refine nx_op ?_; refine opw_yld (Yld.assign rfl) rfl ?_)
        all_goals refine nx_nil ?_
        all_goals refine kp_code_normal ?_
        all_goals refine nx_seq ?_
        all_goals refine nx_draw (fun i => match i with | 3 => .read | 7 => .read | 9 => .hard | _ => .stab) [] [0, 1, 2, 3, 4, 5, 6, 7, 8, 9, 10, 11, 12, 13, 14] rfl (by kernel_rfl) inferInstance ?_
        all_goals (refine wk_stab rfl rfl (Yld.move rfl) rfl ?_)
        all_goals (refine wk_stab rfl rfl (Yld.nilCheck rfl) rfl ?_)
        all_goals (refine wk_stab rfl rfl (Yld.fieldAddr rfl) rfl ?_)
        all_goals (refine wk_read rfl rfl (Yld.load rfl) rfl ?_)
        all_goals (refine wk_stab rfl rfl (Yld.move rfl) rfl ?_)
        all_goals (refine wk_stab rfl rfl (Yld.nilCheck rfl) rfl ?_)
        all_goals (refine wk_stab rfl rfl (Yld.fieldAddr rfl) rfl ?_)
        all_goals (refine wk_read rfl rfl (Yld.load rfl) rfl ?_)
        all_goals (refine wk_stab rfl rfl (Yld.move rfl) rfl ?_)
        all_goals ((refine wk_hard rfl rfl ?_; (refine opw_call rfl (sp61 (hT.mono (by simp +contextual)) dir nm) inferInstance rfl ?_; rintro _ _ ⟨rfl, rfl⟩; simp only [List.nil_append, findR_abs, hfd, pairV]); refine nx_keeps inferInstance ?_))
        all_goals (refine wk_stab rfl rfl (Yld.move rfl) rfl ?_)
        all_goals (refine wk_stab rfl rfl (Yld.extract rfl rfl) rfl ?_)
        all_goals (refine wk_stab rfl rfl (Yld.extract rfl rfl) rfl ?_)
        all_goals (refine wk_stab rfl rfl (Yld.assign rfl) rfl ?_)
        all_goals (refine wk_stab rfl rfl (Yld.assign rfl) rfl ?_)
        all_goals refine wk_nil ?_
        all_goals refine kp_code_normal ?_
        all_goals refine nx_seq ?_
        all_goals refine nx_block ?_
        all_goals refine nx_seq ?_
        all_goals refine nx_region ?_
        all_goals (refine nx_op ?_; refine opw_yld (Yld.move rfl) rfl ?_)
        all_goals (refine nx_op ?_; refine opw_yld (Yld.cmp rfl rfl rfl) rfl ?_)
        all_goals (refine nx_op ?_; refine opw_yld (Yld.move rfl) rfl ?_)
        all_goals (first | refine nx_guard_n rfl (by first | rfl | assumption) rfl ?_ | refine nx_guard_u rfl rfl ?_ | ((first | refine nx_guard_y rfl (by first | rfl | assumption) ?_ | refine nx_guard rfl rfl (fun hc => ?_) (fun hc => ?_)); all_goals (first | (refine opw_yld (Yld.move rfl) rfl ?_) | skip)))
        all_goals (first | refine nx_guard_n rfl (by first | rfl | assumption) rfl ?_ | refine nx_guard_u rfl rfl ?_ | ((first | refine nx_guard_y rfl (by first | rfl | assumption) ?_ | refine nx_guard rfl rfl (fun hc => ?_) (fun hc => ?_)); all_goals (first | (refine opw_yld (Yld.not rfl) rfl ?_) | skip)))
        all_goals (refine nx_op ?_; (first | refine opw_yld (Yld.pick_t rfl (by first | rfl | assumption) rfl) rfl ?_ | refine opw_yld (Yld.pick_f rfl (by first | rfl | assumption) rfl) rfl ?_))
        all_goals (refine nx_op ?_; refine opw_yld (Yld.move rfl) rfl ?_)
        all_goals (first | refine nx_guard_n rfl (by first | rfl | assumption) rfl ?_ | refine nx_guard_u rfl rfl ?_ | ((first | refine nx_guard_y rfl (by first | rfl | assumption) ?_ | refine nx_guard rfl rfl (fun hc => ?_) (fun hc => ?_)); all_goals (first | (refine opw_yld (Yld.move rfl) rfl ?_) | skip)))
        all_goals (first | refine nx_guard_n rfl (by first | rfl | assumption) rfl ?_ | refine nx_guard_u rfl rfl ?_ | ((first | refine nx_guard_y rfl (by first | rfl | assumption) ?_ | refine nx_guard rfl rfl (fun hc => ?_) (fun hc => ?_)); all_goals (first | (refine opw_yld (Yld.move rfl) rfl ?_) | skip)))
        all_goals (first | refine nx_guard_n rfl (by first | rfl | assumption) rfl ?_ | refine nx_guard_u rfl rfl ?_ | ((first | refine nx_guard_y rfl (by first | rfl | assumption) ?_ | refine nx_guard rfl rfl (fun hc => ?_) (fun hc => ?_)); all_goals (first | (refine opw_yld (Yld.nilCheck rfl) rfl ?_) | skip)))
        all_goals (first | refine nx_guard_n rfl (by first | rfl | assumption) rfl ?_ | refine nx_guard_u rfl rfl ?_ | ((first | refine nx_guard_y rfl (by first | rfl | assumption) ?_ | refine nx_guard rfl rfl (fun hc => ?_) (fun hc => ?_)); all_goals (first | (refine opw_yld (Yld.fieldAddr rfl) rfl ?_) | skip)))
        all_goals (first | refine nx_guard_n rfl (by first | rfl | assumption) rfl ?_ | refine nx_guard_u rfl rfl ?_ | ((first | refine nx_guard_y rfl (by first | rfl | assumption) ?_ | refine nx_guard rfl rfl (fun hc => ?_) (fun hc => ?_)); all_goals (first | (refine opw_yld (Yld.load rfl) rfl ?_) | skip)))
        all_goals (first | refine nx_guard_n rfl (by first | rfl | assumption) rfl ?_ | refine nx_guard_u rfl rfl ?_ | ((first | refine nx_guard_y rfl (by first | rfl | assumption) ?_ | refine nx_guard rfl rfl (fun hc => ?_) (fun hc => ?_)); all_goals (first | ((refine opw_call rfl (sp130 (hT.mono (by simp +contextual)) _ (b := b) (hb := by intro y hy; simp only [wc, List.mem_singleton] at hy; subst hy; simp; first | exact ⟨rfl, rfl⟩ | exact Or.inl ⟨rfl, rfl⟩ | exact Or.inr (Or.inl ⟨rfl, rfl⟩))) inferInstance rfl ?_; rintro _ _ ⟨rfl, rfl⟩; simp only [List.nil_append])) | skip)))
        all_goals (first | refine nx_guard_n rfl (by first | rfl | assumption) rfl ?_ | refine nx_guard_u rfl rfl ?_ | ((first | refine nx_guard_y rfl (by first | rfl | assumption) ?_ | refine nx_guard rfl rfl (fun hc => ?_) (fun hc => ?_)); all_goals (first | (refine opw_yld (Yld.cmp rfl rfl rfl) rfl ?_) | skip)))
        all_goals (refine nx_op ?_; (first | refine opw_yld (Yld.pick_t rfl (by first | rfl | assumption) rfl) rfl ?_ | refine opw_yld (Yld.pick_f rfl (by first | rfl | assumption) rfl) rfl ?_))
        all_goals (refine nx_op ?_; refine opw_yld (Yld.assign rfl) rfl ?_)
        all_goals refine nx_nil ?_
        all_goals refine kp_code_normal ?_
        all_goals (refine nx_cond rfl (fun hc => ?_) (fun hc => ?_))
        all_goals (first | (exact Bool.noConfusion (hc.symm.trans (by first | rfl | assumption) : true = false)) | (exact Bool.noConfusion (hc.symm.trans (by first | rfl | assumption) : false = true)) | (all_goals refine nx_seq ?_; all_goals refine nx_region ?_; all_goals (refine nx_op ?_; refine opw_yld (Yld.move rfl) rfl ?_); all_goals (refine nx_op ?_; refine opw_yld (Yld.nilCheck rfl) rfl ?_); all_goals (refine nx_op ?_; refine opw_yld (Yld.fieldAddr rfl) rfl ?_); all_goals (refine nx_op ?_; refine opw_yld (Yld.load rfl) rfl ?_); all_goals (refine nx_op ?_; refine opw_yld (Yld.move rfl) rfl ?_); all_goals (refine nx_op ?_; refine opw_yld (Yld.build rfl rfl) rfl ?_); all_goals (refine nx_op ?_; refine opw_storeAgg rfl rfl rfl (by simp [Value.oneCell']) ?_); all_goals (refine nx_op ?_; refine opw_yld (Yld.assign rfl) rfl ?_); all_goals refine nx_nil ?_; all_goals refine kp_code_normal ?_; all_goals refine nx_ret ?_; all_goals refine kp_blk_ret ?_; all_goals refine kp_code_ret ?_; all_goals (exact resC2 (by first | exact .inl rfl | exact .inr rfl) Tryd.results93 rfl rfl [wc b T.t dir (40 - (fuel : Int))] inferInstance ⟨dir, _, rfl, by simp [foV], rfl, Nat.le_refl _⟩)) | (all_goals refine nx_seq ?_; all_goals refine nx_region ?_; all_goals (refine nx_op ?_; refine opw_yld (Yld.move rfl) rfl ?_); all_goals (refine nx_op ?_; refine opw_yld (Yld.cmp rfl rfl rfl) rfl ?_); all_goals (refine nx_op ?_; refine opw_yld (Yld.assign rfl) rfl ?_); all_goals refine nx_nil ?_; all_goals refine kp_code_normal ?_; all_goals (refine nx_cond rfl (fun hc => ?_) (fun hc => ?_)); all_goals (first | (exact Bool.noConfusion (hc.symm.trans (by first | rfl | assumption) : true = false)) | (exact Bool.noConfusion (hc.symm.trans (by first | rfl | assumption) : false = true)) | (all_goals refine nx_seq ?_; all_goals refine nx_region ?_; all_goals (refine nx_op ?_; refine opw_yld (Yld.build rfl rfl) rfl ?_); all_goals (refine nx_op ?_; refine opw_yld (Yld.move rfl) rfl ?_); all_goals (refine nx_op ?_; refine opw_storeAgg rfl rfl rfl (by simp [Value.oneCell']) ?_); all_goals (refine nx_op ?_; refine opw_yld (Yld.assign rfl) rfl ?_); all_goals refine nx_nil ?_; all_goals refine kp_code_normal ?_; all_goals refine nx_ret ?_; all_goals refine kp_blk_ret ?_; all_goals refine kp_code_ret ?_; all_goals (exact resC2 (by first | exact .inl rfl | exact .inr rfl) Tryd.results93 rfl rfl [wc b T.t dir (40 - (fuel : Int))] inferInstance ⟨dir, _, rfl, by simp [foV], rfl, Nat.le_refl _⟩)) | (all_goals refine nx_skip ?_))))
        all_goals refine kp_blk_normal ?_
        all_goals refine kp_code_normal ?_
        all_goals refine nx_seq ?_
        all_goals refine nx_region ?_
        all_goals (refine nx_op ?_; refine opw_yld (Yld.move rfl) rfl ?_)
        all_goals (refine nx_op ?_; refine opw_yld (Yld.nilCheck rfl) rfl ?_)
        all_goals (refine nx_op ?_; refine opw_yld (Yld.fieldAddr rfl) rfl ?_)
        all_goals (refine nx_op ?_; refine opw_yld (Yld.load rfl) rfl ?_)
        all_goals (refine nx_op ?_; refine opw_yld (Yld.move rfl) rfl ?_)
        all_goals (refine nx_op ?_; refine opw_yld (Yld.move rfl) rfl ?_)
        all_goals (refine nx_op ?_; refine opw_yld (Yld.build (cs := [.int .i64 dir, .string nm, .int .i64 n]) rfl rfl) rfl ?_)
        all_goals (refine nx_op ?_; refine opw_alc Alc.alloc rfl (fun b12 => ?_))
        all_goals (refine nx_op ?_; refine opw_storeAgg rfl rfl rfl (by simp [Value.oneCell']) ?_)
        all_goals refine nx_nil ?_
        all_goals refine kp_code_normal ?_
        all_goals refine nx_seq ?_
        all_goals refine nx_seq ?_
        all_goals refine nx_region ?_
        all_goals (refine nx_op ?_; refine opw_yld (Yld.move rfl) rfl ?_)
        all_goals (refine nx_op ?_; refine opw_yld (Yld.move rfl) rfl ?_)
        all_goals (refine nx_op ?_; (refine opw_call rfl (sp130 (hT.mono (by simp +contextual)) _ (b := b) (hb := by intro y hy; simp only [wc, List.mem_singleton] at hy; subst hy; simp; first | exact ⟨rfl, rfl⟩ | exact Or.inl ⟨rfl, rfl⟩ | exact Or.inr (Or.inl ⟨rfl, rfl⟩))) inferInstance rfl ?_; rintro _ _ ⟨rfl, rfl⟩; simp only [List.nil_append]))
        all_goals (refine nx_op ?_; refine opw_yld (Yld.cmp rfl rfl rfl) rfl ?_)
        all_goals (refine nx_op ?_; refine opw_yld (Yld.move rfl) rfl ?_)
        all_goals (first | refine nx_guard_n rfl (by first | rfl | assumption) rfl ?_ | refine nx_guard_u rfl rfl ?_ | ((first | refine nx_guard_y rfl (by first | rfl | assumption) ?_ | refine nx_guard rfl rfl (fun hc => ?_) (fun hc => ?_)); all_goals (first | (refine opw_yld (Yld.move rfl) rfl ?_) | skip)))
        all_goals (first | refine nx_guard_n rfl (by first | rfl | assumption) rfl ?_ | refine nx_guard_u rfl rfl ?_ | ((first | refine nx_guard_y rfl (by first | rfl | assumption) ?_ | refine nx_guard rfl rfl (fun hc => ?_) (fun hc => ?_)); all_goals (first | (refine opw_yld (Yld.move rfl) rfl ?_) | skip)))
        all_goals (first | refine nx_guard_n rfl (by first | rfl | assumption) rfl ?_ | refine nx_guard_u rfl rfl ?_ | ((first | refine nx_guard_y rfl (by first | rfl | assumption) ?_ | refine nx_guard rfl rfl (fun hc => ?_) (fun hc => ?_)); all_goals (first | (refine opw_yld (Yld.move rfl) rfl ?_) | skip)))
        all_goals (first | refine nx_guard_n rfl (by first | rfl | assumption) rfl ?_ | refine nx_guard_u rfl rfl ?_ | ((first | refine nx_guard_y rfl (by first | rfl | assumption) ?_ | refine nx_guard rfl rfl (fun hc => ?_) (fun hc => ?_)); all_goals (first | ((first | refine opw_yld (Yld.pick_t rfl (by first | rfl | assumption) rfl) rfl ?_ | refine opw_yld (Yld.pick_f rfl (by first | rfl | assumption) rfl) rfl ?_)) | skip)))
        all_goals (refine nx_op ?_; (first | refine opw_yld (Yld.pick_t rfl (by first | rfl | assumption) rfl) rfl ?_ | refine opw_yld (Yld.pick_f rfl (by first | rfl | assumption) rfl) rfl ?_))
        all_goals refine nx_nil ?_
        all_goals refine kp_code_normal ?_
        all_goals (refine nx_cond rfl (fun hc => ?_) (fun hc => ?_))
        all_goals (first | (exact Bool.noConfusion (hc.symm.trans (by first | rfl | assumption) : true = false)) | (exact Bool.noConfusion (hc.symm.trans (by first | rfl | assumption) : false = true)) | (all_goals refine nx_seq ?_; all_goals refine nx_seq ?_; all_goals refine nx_region ?_; all_goals (refine nx_op ?_; refine opw_yld (Yld.move rfl) rfl ?_); all_goals (refine nx_op ?_; refine opw_yld (Yld.move rfl) rfl ?_); all_goals (refine nx_op ?_; (fail)); all_goals (refine nx_op ?_; refine opw_yld (Yld.move rfl) rfl ?_); all_goals (refine nx_op ?_; refine opw_yld (Yld.extract rfl rfl) rfl ?_); all_goals (refine nx_op ?_; refine opw_yld (Yld.extract rfl rfl) rfl ?_); all_goals (refine nx_op ?_; refine opw_storeAgg rfl rfl rfl (by simp [Value.oneCell']) ?_); all_goals (refine nx_op ?_; refine opw_yld (Yld.assign rfl) rfl ?_); all_goals refine nx_nil ?_; all_goals refine kp_code_normal ?_; all_goals refine nx_seq ?_; all_goals refine nx_region ?_; all_goals (refine nx_op ?_; refine opw_yld (Yld.move rfl) rfl ?_); all_goals (refine nx_op ?_; refine opw_yld (Yld.cmp rfl rfl rfl) rfl ?_); all_goals refine nx_nil ?_; all_goals refine kp_code_normal ?_; all_goals (refine nx_cond rfl (fun hc => ?_) (fun hc => ?_)); all_goals (first | (exact Bool.noConfusion (hc.symm.trans (by first | rfl | assumption) : true = false)) | (exact Bool.noConfusion (hc.symm.trans (by first | rfl | assumption) : false = true)) | (all_goals refine nx_seq ?_; all_goals refine nx_region ?_; all_goals (refine nx_op ?_; refine opw_yld (Yld.build rfl rfl) rfl ?_); all_goals (refine nx_op ?_; refine opw_yld (Yld.move rfl) rfl ?_); all_goals (refine nx_op ?_; refine opw_storeAgg rfl rfl rfl (by simp [Value.oneCell']) ?_); all_goals (refine nx_op ?_; refine opw_yld (Yld.assign rfl) rfl ?_); all_goals refine nx_nil ?_; all_goals refine kp_code_normal ?_; all_goals refine nx_ret ?_; all_goals refine kp_code_ret ?_; all_goals refine kp_code_ret ?_; all_goals (exact resC2 (by first | exact .inl rfl | exact .inr rfl) Tryd.results93 rfl rfl [wc b T.t dir (40 - (fuel : Int))] inferInstance ⟨dir, _, rfl, by simp [foV], rfl, Nat.le_refl _⟩)) | (all_goals refine nx_skip ?_)); all_goals refine kp_code_normal ?_; all_goals refine nx_seq ?_; all_goals refine nx_region ?_; all_goals (refine nx_op ?_; refine opw_yld (Yld.fieldAddr rfl) rfl ?_); all_goals (refine nx_op ?_; refine opw_yld (Yld.load rfl) rfl ?_); all_goals (refine nx_op ?_; refine opw_yld (Yld.cmp rfl rfl rfl) rfl ?_); all_goals (refine nx_op ?_; refine opw_yld (Yld.move rfl) rfl ?_); all_goals (first | refine nx_guard_n rfl (by first | rfl | assumption) rfl ?_ | refine nx_guard_u rfl rfl ?_ | ((first | refine nx_guard_y rfl (by first | rfl | assumption) ?_ | refine nx_guard rfl rfl (fun hc => ?_) (fun hc => ?_)); all_goals (first | (refine opw_yld (Yld.move rfl) rfl ?_) | skip))); all_goals (refine nx_op ?_; (first | refine opw_yld (Yld.pick_t rfl (by first | rfl | assumption) rfl) rfl ?_ | refine opw_yld (Yld.pick_f rfl (by first | rfl | assumption) rfl) rfl ?_)); all_goals refine nx_nil ?_; all_goals refine kp_code_normal ?_; all_goals (refine nx_cond rfl (fun hc => ?_) (fun hc => ?_)); all_goals (first | (exact Bool.noConfusion (hc.symm.trans (by first | rfl | assumption) : true = false)) | (exact Bool.noConfusion (hc.symm.trans (by first | rfl | assumption) : false = true)) | (all_goals refine nx_seq ?_; all_goals refine nx_region ?_; all_goals (refine nx_op ?_; refine opw_yld (Yld.build rfl rfl) rfl ?_); all_goals (refine nx_op ?_; refine opw_storeAgg rfl rfl rfl (by simp [Value.oneCell']) ?_); all_goals (refine nx_op ?_; refine opw_yld (Yld.assign rfl) rfl ?_); all_goals refine nx_nil ?_; all_goals refine kp_code_normal ?_; all_goals refine nx_ret ?_; all_goals refine kp_code_ret ?_; all_goals (exact resC2 (by first | exact .inl rfl | exact .inr rfl) Tryd.results93 rfl rfl [wc b T.t dir (40 - (fuel : Int))] inferInstance ⟨dir, _, rfl, by simp [foV], rfl, Nat.le_refl _⟩)) | (all_goals refine nx_skip ?_))) | (all_goals refine nx_skip ?_))
        all_goals refine kp_code_normal ?_
        all_goals refine nx_seq ?_
        all_goals refine nx_seq ?_
        all_goals refine nx_region ?_
        all_goals (refine nx_op ?_; refine opw_yld (Yld.move rfl) rfl ?_)
        all_goals (refine nx_op ?_; refine opw_yld (Yld.move rfl) rfl ?_)
        all_goals (first | refine nx_guard_n rfl (by first | rfl | assumption) rfl ?_ | refine nx_guard_u rfl rfl ?_ | ((first | refine nx_guard_y rfl (by first | rfl | assumption) ?_ | refine nx_guard rfl rfl (fun hc => ?_) (fun hc => ?_)); all_goals (first | (refine opw_yld (Yld.move rfl) rfl ?_) | skip)))
        all_goals (first | refine nx_guard_n rfl (by first | rfl | assumption) rfl ?_ | refine nx_guard_u rfl rfl ?_ | ((first | refine nx_guard_y rfl (by first | rfl | assumption) ?_ | refine nx_guard rfl rfl (fun hc => ?_) (fun hc => ?_)); all_goals (first | (refine opw_yld (Yld.fieldAddr rfl) rfl ?_) | skip)))
        all_goals (first | refine nx_guard_n rfl (by first | rfl | assumption) rfl ?_ | refine nx_guard_u rfl rfl ?_ | ((first | refine nx_guard_y rfl (by first | rfl | assumption) ?_ | refine nx_guard rfl rfl (fun hc => ?_) (fun hc => ?_)); all_goals (first | (refine opw_yld (Yld.load rfl) rfl ?_) | skip)))
        all_goals (first | refine nx_guard_n rfl (by first | rfl | assumption) rfl ?_ | refine nx_guard_u rfl rfl ?_ | ((first | refine nx_guard_y rfl (by first | rfl | assumption) ?_ | refine nx_guard rfl rfl (fun hc => ?_) (fun hc => ?_)); all_goals (first | ((refine opw_call rfl (sp130 (hT.mono (by simp +contextual)) _ (b := b) (hb := by intro y hy; simp only [wc, List.mem_singleton] at hy; subst hy; simp; first | exact ⟨rfl, rfl⟩ | exact Or.inl ⟨rfl, rfl⟩ | exact Or.inr (Or.inl ⟨rfl, rfl⟩))) inferInstance rfl ?_; rintro _ _ ⟨rfl, rfl⟩; simp only [List.nil_append])) | skip)))
        all_goals (first | refine nx_guard_n rfl (by first | rfl | assumption) rfl ?_ | refine nx_guard_u rfl rfl ?_ | ((first | refine nx_guard_y rfl (by first | rfl | assumption) ?_ | refine nx_guard rfl rfl (fun hc => ?_) (fun hc => ?_)); all_goals (first | (refine opw_yld (Yld.cmp rfl rfl rfl) rfl ?_) | skip)))
        all_goals (refine nx_op ?_; (first | refine opw_yld (Yld.pick_t rfl (by first | rfl | assumption) rfl) rfl ?_ | refine opw_yld (Yld.pick_f rfl (by first | rfl | assumption) rfl) rfl ?_))
        all_goals refine nx_nil ?_
        all_goals refine kp_code_normal ?_
        all_goals (refine nx_cond rfl (fun hc => ?_) (fun hc => ?_))
        all_goals (first | (exact Bool.noConfusion (hc.symm.trans (by first | rfl | assumption) : true = false)) | (exact Bool.noConfusion (hc.symm.trans (by first | rfl | assumption) : false = true)) | (all_goals refine nx_seq ?_; all_goals refine nx_region ?_; all_goals (refine nx_op ?_; refine opw_yld (Yld.build rfl rfl) rfl ?_); all_goals (refine nx_op ?_; refine opw_storeAgg rfl rfl rfl (by simp [Value.oneCell']) ?_); all_goals (refine nx_op ?_; refine opw_yld (Yld.assign rfl) rfl ?_); all_goals refine nx_nil ?_; all_goals refine kp_code_normal ?_; all_goals refine nx_ret ?_; all_goals refine kp_code_ret ?_; all_goals (exact resC2 (by first | exact .inl rfl | exact .inr rfl) Tryd.results93 rfl rfl [wc b T.t dir (40 - (fuel : Int))] inferInstance ⟨dir, _, rfl, by simp [foV], rfl, Nat.le_refl _⟩)) | (all_goals refine nx_skip ?_))
        all_goals refine kp_code_normal ?_
        all_goals refine nx_seq ?_
        all_goals refine nx_region ?_
        all_goals (refine nx_op ?_; refine opw_yld (Yld.loadAgg rfl) rfl ?_)
        all_goals (refine nx_op ?_; refine opw_storeAgg rfl rfl rfl (by simp [Value.oneCell']) ?_)
        all_goals (refine nx_op ?_; refine opw_yld (Yld.assign rfl) rfl ?_)
        all_goals refine nx_nil ?_
        all_goals refine kp_code_normal ?_
        all_goals refine nx_ret ?_
        all_goals (exact resC2 (by first | exact .inl rfl | exact .inr rfl) Tryd.results93 rfl rfl [wc b T.t dir (40 - (fuel : Int))] inferInstance ⟨dir, _, rfl, by simp [foV], rfl, Nat.le_refl _⟩)
      | false =>
        by_cases hk3 : kindA (abs T.S) n = 3
        · have hfo : fol = false := by simpa [hk3] using hk
          subst hfo
          have hb : (kindA (abs T.S) n == 3) = true := by simp [hk3]
          all_goals refine nx_seq ?_
          all_goals refine nx_region ?_
          all_goals (refine nx_op ?_; refine opw_alc Alc.alloc rfl (fun b8 => ?_))
          all_goals (refine nx_op ?_; refine opw_yld (Yld.assign rfl) rfl ?_)
          all_goals refine nx_nil ?_
          all_goals refine kp_code_normal ?_
          all_goals refine nx_seq ?_
          all_goals refine nx_draw (fun i => match i with | 3 => .read | 7 => .read | 9 => .hard | _ => .stab) [] [0, 1, 2, 3, 4, 5, 6, 7, 8, 9, 10, 11, 12, 13, 14] rfl (by kernel_rfl) inferInstance ?_
          all_goals (refine wk_stab rfl rfl (Yld.move rfl) rfl ?_)
          all_goals (refine wk_stab rfl rfl (Yld.nilCheck rfl) rfl ?_)
          all_goals (refine wk_stab rfl rfl (Yld.fieldAddr rfl) rfl ?_)
          all_goals (refine wk_read rfl rfl (Yld.load rfl) rfl ?_)
          all_goals (refine wk_stab rfl rfl (Yld.move rfl) rfl ?_)
          all_goals (refine wk_stab rfl rfl (Yld.nilCheck rfl) rfl ?_)
          all_goals (refine wk_stab rfl rfl (Yld.fieldAddr rfl) rfl ?_)
          all_goals (refine wk_read rfl rfl (Yld.load rfl) rfl ?_)
          all_goals (refine wk_stab rfl rfl (Yld.move rfl) rfl ?_)
          all_goals ((refine wk_hard rfl rfl ?_; (refine opw_call rfl (sp61 (hT.mono (by simp +contextual)) dir nm) inferInstance rfl ?_; rintro _ _ ⟨rfl, rfl⟩; simp only [List.nil_append, findR_abs, hfd, pairV]); refine nx_keeps inferInstance ?_))
          all_goals (refine wk_stab rfl rfl (Yld.move rfl) rfl ?_)
          all_goals (refine wk_stab rfl rfl (Yld.extract rfl rfl) rfl ?_)
          all_goals (refine wk_stab rfl rfl (Yld.extract rfl rfl) rfl ?_)
          all_goals (refine wk_stab rfl rfl (Yld.assign rfl) rfl ?_)
          all_goals (refine wk_stab rfl rfl (Yld.assign rfl) rfl ?_)
          all_goals refine wk_nil ?_
          all_goals refine kp_code_normal ?_
          all_goals refine nx_seq ?_
          all_goals refine nx_block ?_
          all_goals refine nx_seq ?_
          all_goals refine nx_region ?_
          all_goals (refine nx_op ?_; refine opw_yld (Yld.move rfl) rfl ?_)
          all_goals (refine nx_op ?_; refine opw_yld (Yld.cmp rfl rfl rfl) rfl ?_)
          all_goals (refine nx_op ?_; refine opw_yld (Yld.move rfl) rfl ?_)
          all_goals (first | refine nx_guard_n rfl (by first | rfl | assumption) rfl ?_ | refine nx_guard_u rfl rfl ?_ | ((first | refine nx_guard_y rfl (by first | rfl | assumption) ?_ | refine nx_guard rfl rfl (fun hc => ?_) (fun hc => ?_)); all_goals (first | (refine opw_yld (Yld.move rfl) rfl ?_) | skip)))
          all_goals (first | refine nx_guard_n rfl (by first | rfl | assumption) rfl ?_ | refine nx_guard_u rfl rfl ?_ | ((first | refine nx_guard_y rfl (by first | rfl | assumption) ?_ | refine nx_guard rfl rfl (fun hc => ?_) (fun hc => ?_)); all_goals (first | (refine opw_yld (Yld.not rfl) rfl ?_) | skip)))
          all_goals (refine nx_op ?_; (first | refine opw_yld (Yld.pick_t rfl (by first | rfl | assumption) rfl) rfl ?_ | refine opw_yld (Yld.pick_f rfl (by first | rfl | assumption) rfl) rfl ?_))
          all_goals (refine nx_op ?_; refine opw_yld (Yld.move rfl) rfl ?_)
          all_goals (first | refine nx_guard_n rfl (by first | rfl | assumption) rfl ?_ | refine nx_guard_u rfl rfl ?_ | ((first | refine nx_guard_y rfl (by first | rfl | assumption) ?_ | refine nx_guard rfl rfl (fun hc => ?_) (fun hc => ?_)); all_goals (first | (refine opw_yld (Yld.move rfl) rfl ?_) | skip)))
          all_goals (first | refine nx_guard_n rfl (by first | rfl | assumption) rfl ?_ | refine nx_guard_u rfl rfl ?_ | ((first | refine nx_guard_y rfl (by first | rfl | assumption) ?_ | refine nx_guard rfl rfl (fun hc => ?_) (fun hc => ?_)); all_goals (first | (refine opw_yld (Yld.move rfl) rfl ?_) | skip)))
          all_goals (first | refine nx_guard_n rfl (by first | rfl | assumption) rfl ?_ | refine nx_guard_u rfl rfl ?_ | ((first | refine nx_guard_y rfl (by first | rfl | assumption) ?_ | refine nx_guard rfl rfl (fun hc => ?_) (fun hc => ?_)); all_goals (first | (refine opw_yld (Yld.nilCheck rfl) rfl ?_) | skip)))
          all_goals (first | refine nx_guard_n rfl (by first | rfl | assumption) rfl ?_ | refine nx_guard_u rfl rfl ?_ | ((first | refine nx_guard_y rfl (by first | rfl | assumption) ?_ | refine nx_guard rfl rfl (fun hc => ?_) (fun hc => ?_)); all_goals (first | (refine opw_yld (Yld.fieldAddr rfl) rfl ?_) | skip)))
          all_goals (first | refine nx_guard_n rfl (by first | rfl | assumption) rfl ?_ | refine nx_guard_u rfl rfl ?_ | ((first | refine nx_guard_y rfl (by first | rfl | assumption) ?_ | refine nx_guard rfl rfl (fun hc => ?_) (fun hc => ?_)); all_goals (first | (refine opw_yld (Yld.load rfl) rfl ?_) | skip)))
          all_goals (first | refine nx_guard_n rfl (by first | rfl | assumption) rfl ?_ | refine nx_guard_u rfl rfl ?_ | ((first | refine nx_guard_y rfl (by first | rfl | assumption) ?_ | refine nx_guard rfl rfl (fun hc => ?_) (fun hc => ?_)); all_goals (first | ((refine opw_call rfl (sp130 (hT.mono (by simp +contextual)) _ (b := b) (hb := by intro y hy; simp only [wc, List.mem_singleton] at hy; subst hy; simp; first | exact ⟨rfl, rfl⟩ | exact Or.inl ⟨rfl, rfl⟩ | exact Or.inr (Or.inl ⟨rfl, rfl⟩))) inferInstance rfl ?_; rintro _ _ ⟨rfl, rfl⟩; simp only [List.nil_append])) | skip)))
          all_goals (first | refine nx_guard_n rfl (by first | rfl | assumption) rfl ?_ | refine nx_guard_u rfl rfl ?_ | ((first | refine nx_guard_y rfl (by first | rfl | assumption) ?_ | refine nx_guard rfl rfl (fun hc => ?_) (fun hc => ?_)); all_goals (first | (refine opw_yld (Yld.cmp rfl rfl rfl) rfl ?_) | skip)))
          all_goals (refine nx_op ?_; (first | refine opw_yld (Yld.pick_t rfl (by first | rfl | assumption) rfl) rfl ?_ | refine opw_yld (Yld.pick_f rfl (by first | rfl | assumption) rfl) rfl ?_))
          all_goals (refine nx_op ?_; refine opw_yld (Yld.assign rfl) rfl ?_)
          all_goals refine nx_nil ?_
          all_goals refine kp_code_normal ?_
          all_goals (refine nx_cond rfl (fun hc => ?_) (fun hc => ?_))
          all_goals (first | (exact Bool.noConfusion (hc.symm.trans (by first | rfl | assumption) : true = false)) | (exact Bool.noConfusion (hc.symm.trans (by first | rfl | assumption) : false = true)) | (all_goals refine nx_seq ?_; all_goals refine nx_region ?_; all_goals (refine nx_op ?_; refine opw_yld (Yld.move rfl) rfl ?_); all_goals (refine nx_op ?_; refine opw_yld (Yld.nilCheck rfl) rfl ?_); all_goals (refine nx_op ?_; refine opw_yld (Yld.fieldAddr rfl) rfl ?_); all_goals (refine nx_op ?_; refine opw_yld (Yld.load rfl) rfl ?_); all_goals (refine nx_op ?_; refine opw_yld (Yld.move rfl) rfl ?_); all_goals (refine nx_op ?_; refine opw_yld (Yld.build rfl rfl) rfl ?_); all_goals (refine nx_op ?_; refine opw_storeAgg rfl rfl rfl (by simp [Value.oneCell']) ?_); all_goals (refine nx_op ?_; refine opw_yld (Yld.assign rfl) rfl ?_); all_goals refine nx_nil ?_; all_goals refine kp_code_normal ?_; all_goals refine nx_ret ?_; all_goals refine kp_blk_ret ?_; all_goals refine kp_code_ret ?_; all_goals (exact resC2 (by first | exact .inl rfl | exact .inr rfl) Tryd.results93 rfl rfl [wc b T.t dir (40 - (fuel : Int))] inferInstance ⟨dir, _, rfl, by simp [foV], rfl, Nat.le_refl _⟩)) | (all_goals refine nx_seq ?_; all_goals refine nx_region ?_; all_goals (refine nx_op ?_; refine opw_yld (Yld.move rfl) rfl ?_); all_goals (refine nx_op ?_; refine opw_yld (Yld.cmp rfl rfl rfl) rfl ?_); all_goals (refine nx_op ?_; refine opw_yld (Yld.assign rfl) rfl ?_); all_goals refine nx_nil ?_; all_goals refine kp_code_normal ?_; all_goals (refine nx_cond rfl (fun hc => ?_) (fun hc => ?_)); all_goals (first | (exact Bool.noConfusion (hc.symm.trans (by first | rfl | assumption) : true = false)) | (exact Bool.noConfusion (hc.symm.trans (by first | rfl | assumption) : false = true)) | (all_goals refine nx_seq ?_; all_goals refine nx_region ?_; all_goals (refine nx_op ?_; refine opw_yld (Yld.build rfl rfl) rfl ?_); all_goals (refine nx_op ?_; refine opw_yld (Yld.move rfl) rfl ?_); all_goals (refine nx_op ?_; refine opw_storeAgg rfl rfl rfl (by simp [Value.oneCell']) ?_); all_goals (refine nx_op ?_; refine opw_yld (Yld.assign rfl) rfl ?_); all_goals refine nx_nil ?_; all_goals refine kp_code_normal ?_; all_goals refine nx_ret ?_; all_goals refine kp_blk_ret ?_; all_goals refine kp_code_ret ?_; all_goals (exact resC2 (by first | exact .inl rfl | exact .inr rfl) Tryd.results93 rfl rfl [wc b T.t dir (40 - (fuel : Int))] inferInstance ⟨dir, _, rfl, by simp [foV], rfl, Nat.le_refl _⟩)) | (all_goals refine nx_skip ?_))))
          all_goals refine kp_blk_normal ?_
          all_goals refine kp_code_normal ?_
          all_goals refine nx_seq ?_
          all_goals refine nx_region ?_
          all_goals (refine nx_op ?_; refine opw_yld (Yld.move rfl) rfl ?_)
          all_goals (refine nx_op ?_; refine opw_yld (Yld.nilCheck rfl) rfl ?_)
          all_goals (refine nx_op ?_; refine opw_yld (Yld.fieldAddr rfl) rfl ?_)
          all_goals (refine nx_op ?_; refine opw_yld (Yld.load rfl) rfl ?_)
          all_goals (refine nx_op ?_; refine opw_yld (Yld.move rfl) rfl ?_)
          all_goals (refine nx_op ?_; refine opw_yld (Yld.move rfl) rfl ?_)
          all_goals (refine nx_op ?_; refine opw_yld (Yld.build (cs := [.int .i64 dir, .string nm, .int .i64 n]) rfl rfl) rfl ?_)
          all_goals (refine nx_op ?_; refine opw_alc Alc.alloc rfl (fun b12 => ?_))
          all_goals (refine nx_op ?_; refine opw_storeAgg rfl rfl rfl (by simp [Value.oneCell']) ?_)
          all_goals refine nx_nil ?_
          all_goals refine kp_code_normal ?_
          all_goals refine nx_seq ?_
          all_goals refine nx_seq ?_
          all_goals refine nx_region ?_
          all_goals (refine nx_op ?_; refine opw_yld (Yld.move rfl) rfl ?_)
          all_goals (refine nx_op ?_; refine opw_yld (Yld.move rfl) rfl ?_)
          all_goals (refine nx_op ?_; (refine opw_call rfl (sp130 (hT.mono (by simp +contextual)) _ (b := b) (hb := by intro y hy; simp only [wc, List.mem_singleton] at hy; subst hy; simp; first | exact ⟨rfl, rfl⟩ | exact Or.inl ⟨rfl, rfl⟩ | exact Or.inr (Or.inl ⟨rfl, rfl⟩))) inferInstance rfl ?_; rintro _ _ ⟨rfl, rfl⟩; simp only [List.nil_append]))
          all_goals (refine nx_op ?_; refine opw_yld (Yld.cmp rfl rfl rfl) rfl ?_)
          all_goals (refine nx_op ?_; refine opw_yld (Yld.move rfl) rfl ?_)
          all_goals (first | refine nx_guard_n rfl (by first | rfl | assumption) rfl ?_ | refine nx_guard_u rfl rfl ?_ | ((first | refine nx_guard_y rfl (by first | rfl | assumption) ?_ | refine nx_guard rfl rfl (fun hc => ?_) (fun hc => ?_)); all_goals (first | (refine opw_yld (Yld.move rfl) rfl ?_) | skip)))
          all_goals (first | refine nx_guard_n rfl (by first | rfl | assumption) rfl ?_ | refine nx_guard_u rfl rfl ?_ | ((first | refine nx_guard_y rfl (by first | rfl | assumption) ?_ | refine nx_guard rfl rfl (fun hc => ?_) (fun hc => ?_)); all_goals (first | (refine opw_yld (Yld.move rfl) rfl ?_) | skip)))
          all_goals (first | refine nx_guard_n rfl (by first | rfl | assumption) rfl ?_ | refine nx_guard_u rfl rfl ?_ | ((first | refine nx_guard_y rfl (by first | rfl | assumption) ?_ | refine nx_guard rfl rfl (fun hc => ?_) (fun hc => ?_)); all_goals (first | (refine opw_yld (Yld.move rfl) rfl ?_) | skip)))
          all_goals (first | refine nx_guard_n rfl (by first | rfl | assumption) rfl ?_ | refine nx_guard_u rfl rfl ?_ | ((first | refine nx_guard_y rfl (by first | rfl | assumption) ?_ | refine nx_guard rfl rfl (fun hc => ?_) (fun hc => ?_)); all_goals (first | ((first | refine opw_yld (Yld.pick_t rfl (by first | rfl | assumption) rfl) rfl ?_ | refine opw_yld (Yld.pick_f rfl (by first | rfl | assumption) rfl) rfl ?_)) | skip)))
          all_goals (refine nx_op ?_; (first | refine opw_yld (Yld.pick_t rfl (by first | rfl | assumption) rfl) rfl ?_ | refine opw_yld (Yld.pick_f rfl (by first | rfl | assumption) rfl) rfl ?_))
          all_goals refine nx_nil ?_
          all_goals refine kp_code_normal ?_
          all_goals (refine nx_cond rfl (fun hc => ?_) (fun hc => ?_))
          all_goals (first | (exact Bool.noConfusion (hc.symm.trans (by first | rfl | assumption) : true = false)) | (exact Bool.noConfusion (hc.symm.trans (by first | rfl | assumption) : false = true)) | (all_goals refine nx_seq ?_; all_goals refine nx_seq ?_; all_goals refine nx_region ?_; all_goals (refine nx_op ?_; refine opw_yld (Yld.move rfl) rfl ?_); all_goals (refine nx_op ?_; refine opw_yld (Yld.move rfl) rfl ?_); all_goals (refine nx_op ?_; (fail)); all_goals (refine nx_op ?_; refine opw_yld (Yld.move rfl) rfl ?_); all_goals (refine nx_op ?_; refine opw_yld (Yld.extract rfl rfl) rfl ?_); all_goals (refine nx_op ?_; refine opw_yld (Yld.extract rfl rfl) rfl ?_); all_goals (refine nx_op ?_; refine opw_storeAgg rfl rfl rfl (by simp [Value.oneCell']) ?_); all_goals (refine nx_op ?_; refine opw_yld (Yld.assign rfl) rfl ?_); all_goals refine nx_nil ?_; all_goals refine kp_code_normal ?_; all_goals refine nx_seq ?_; all_goals refine nx_region ?_; all_goals (refine nx_op ?_; refine opw_yld (Yld.move rfl) rfl ?_); all_goals (refine nx_op ?_; refine opw_yld (Yld.cmp rfl rfl rfl) rfl ?_); all_goals refine nx_nil ?_; all_goals refine kp_code_normal ?_; all_goals (refine nx_cond rfl (fun hc => ?_) (fun hc => ?_)); all_goals (first | (exact Bool.noConfusion (hc.symm.trans (by first | rfl | assumption) : true = false)) | (exact Bool.noConfusion (hc.symm.trans (by first | rfl | assumption) : false = true)) | (all_goals refine nx_seq ?_; all_goals refine nx_region ?_; all_goals (refine nx_op ?_; refine opw_yld (Yld.build rfl rfl) rfl ?_); all_goals (refine nx_op ?_; refine opw_yld (Yld.move rfl) rfl ?_); all_goals (refine nx_op ?_; refine opw_storeAgg rfl rfl rfl (by simp [Value.oneCell']) ?_); all_goals (refine nx_op ?_; refine opw_yld (Yld.assign rfl) rfl ?_); all_goals refine nx_nil ?_; all_goals refine kp_code_normal ?_; all_goals refine nx_ret ?_; all_goals refine kp_code_ret ?_; all_goals refine kp_code_ret ?_; all_goals (exact resC2 (by first | exact .inl rfl | exact .inr rfl) Tryd.results93 rfl rfl [wc b T.t dir (40 - (fuel : Int))] inferInstance ⟨dir, _, rfl, by simp [foV], rfl, Nat.le_refl _⟩)) | (all_goals refine nx_skip ?_)); all_goals refine kp_code_normal ?_; all_goals refine nx_seq ?_; all_goals refine nx_region ?_; all_goals (refine nx_op ?_; refine opw_yld (Yld.fieldAddr rfl) rfl ?_); all_goals (refine nx_op ?_; refine opw_yld (Yld.load rfl) rfl ?_); all_goals (refine nx_op ?_; refine opw_yld (Yld.cmp rfl rfl rfl) rfl ?_); all_goals (refine nx_op ?_; refine opw_yld (Yld.move rfl) rfl ?_); all_goals (first | refine nx_guard_n rfl (by first | rfl | assumption) rfl ?_ | refine nx_guard_u rfl rfl ?_ | ((first | refine nx_guard_y rfl (by first | rfl | assumption) ?_ | refine nx_guard rfl rfl (fun hc => ?_) (fun hc => ?_)); all_goals (first | (refine opw_yld (Yld.move rfl) rfl ?_) | skip))); all_goals (refine nx_op ?_; (first | refine opw_yld (Yld.pick_t rfl (by first | rfl | assumption) rfl) rfl ?_ | refine opw_yld (Yld.pick_f rfl (by first | rfl | assumption) rfl) rfl ?_)); all_goals refine nx_nil ?_; all_goals refine kp_code_normal ?_; all_goals (refine nx_cond rfl (fun hc => ?_) (fun hc => ?_)); all_goals (first | (exact Bool.noConfusion (hc.symm.trans (by first | rfl | assumption) : true = false)) | (exact Bool.noConfusion (hc.symm.trans (by first | rfl | assumption) : false = true)) | (all_goals refine nx_seq ?_; all_goals refine nx_region ?_; all_goals (refine nx_op ?_; refine opw_yld (Yld.build rfl rfl) rfl ?_); all_goals (refine nx_op ?_; refine opw_storeAgg rfl rfl rfl (by simp [Value.oneCell']) ?_); all_goals (refine nx_op ?_; refine opw_yld (Yld.assign rfl) rfl ?_); all_goals refine nx_nil ?_; all_goals refine kp_code_normal ?_; all_goals refine nx_ret ?_; all_goals refine kp_code_ret ?_; all_goals (exact resC2 (by first | exact .inl rfl | exact .inr rfl) Tryd.results93 rfl rfl [wc b T.t dir (40 - (fuel : Int))] inferInstance ⟨dir, _, rfl, by simp [foV], rfl, Nat.le_refl _⟩)) | (all_goals refine nx_skip ?_))) | (all_goals refine nx_skip ?_))
          all_goals refine kp_code_normal ?_
          all_goals refine nx_seq ?_
          all_goals refine nx_seq ?_
          all_goals refine nx_region ?_
          all_goals (refine nx_op ?_; refine opw_yld (Yld.move rfl) rfl ?_)
          all_goals (refine nx_op ?_; refine opw_yld (Yld.move rfl) rfl ?_)
          all_goals (first | refine nx_guard_n rfl (by first | rfl | assumption) rfl ?_ | refine nx_guard_u rfl rfl ?_ | ((first | refine nx_guard_y rfl (by first | rfl | assumption) ?_ | refine nx_guard rfl rfl (fun hc => ?_) (fun hc => ?_)); all_goals (first | (refine opw_yld (Yld.move rfl) rfl ?_) | skip)))
          all_goals (first | refine nx_guard_n rfl (by first | rfl | assumption) rfl ?_ | refine nx_guard_u rfl rfl ?_ | ((first | refine nx_guard_y rfl (by first | rfl | assumption) ?_ | refine nx_guard rfl rfl (fun hc => ?_) (fun hc => ?_)); all_goals (first | (refine opw_yld (Yld.fieldAddr rfl) rfl ?_) | skip)))
          all_goals (first | refine nx_guard_n rfl (by first | rfl | assumption) rfl ?_ | refine nx_guard_u rfl rfl ?_ | ((first | refine nx_guard_y rfl (by first | rfl | assumption) ?_ | refine nx_guard rfl rfl (fun hc => ?_) (fun hc => ?_)); all_goals (first | (refine opw_yld (Yld.load rfl) rfl ?_) | skip)))
          all_goals (first | refine nx_guard_n rfl (by first | rfl | assumption) rfl ?_ | refine nx_guard_u rfl rfl ?_ | ((first | refine nx_guard_y rfl (by first | rfl | assumption) ?_ | refine nx_guard rfl rfl (fun hc => ?_) (fun hc => ?_)); all_goals (first | ((refine opw_call rfl (sp130 (hT.mono (by simp +contextual)) _ (b := b) (hb := by intro y hy; simp only [wc, List.mem_singleton] at hy; subst hy; simp; first | exact ⟨rfl, rfl⟩ | exact Or.inl ⟨rfl, rfl⟩ | exact Or.inr (Or.inl ⟨rfl, rfl⟩))) inferInstance rfl ?_; rintro _ _ ⟨rfl, rfl⟩; simp only [List.nil_append])) | skip)))
          all_goals (first | refine nx_guard_n rfl (by first | rfl | assumption) rfl ?_ | refine nx_guard_u rfl rfl ?_ | ((first | refine nx_guard_y rfl (by first | rfl | assumption) ?_ | refine nx_guard rfl rfl (fun hc => ?_) (fun hc => ?_)); all_goals (first | (refine opw_yld (Yld.cmp rfl rfl rfl) rfl ?_) | skip)))
          all_goals (refine nx_op ?_; (first | refine opw_yld (Yld.pick_t rfl (by first | rfl | assumption) rfl) rfl ?_ | refine opw_yld (Yld.pick_f rfl (by first | rfl | assumption) rfl) rfl ?_))
          all_goals refine nx_nil ?_
          all_goals refine kp_code_normal ?_
          all_goals (refine nx_cond rfl (fun hc => ?_) (fun hc => ?_))
          all_goals (first | (exact Bool.noConfusion (hc.symm.trans (by first | rfl | assumption) : true = false)) | (exact Bool.noConfusion (hc.symm.trans (by first | rfl | assumption) : false = true)) | (all_goals refine nx_seq ?_; all_goals refine nx_region ?_; all_goals (refine nx_op ?_; refine opw_yld (Yld.build rfl rfl) rfl ?_); all_goals (refine nx_op ?_; refine opw_storeAgg rfl rfl rfl (by simp [Value.oneCell']) ?_); all_goals (refine nx_op ?_; refine opw_yld (Yld.assign rfl) rfl ?_); all_goals refine nx_nil ?_; all_goals refine kp_code_normal ?_; all_goals refine nx_ret ?_; all_goals refine kp_code_ret ?_; all_goals (exact resC2 (by first | exact .inl rfl | exact .inr rfl) Tryd.results93 rfl rfl [wc b T.t dir (40 - (fuel : Int))] inferInstance ⟨dir, _, rfl, by simp [foV], rfl, Nat.le_refl _⟩)) | (all_goals refine nx_skip ?_))
          all_goals refine kp_code_normal ?_
          all_goals refine nx_seq ?_
          all_goals refine nx_region ?_
          all_goals (refine nx_op ?_; refine opw_yld (Yld.loadAgg rfl) rfl ?_)
          all_goals (refine nx_op ?_; refine opw_storeAgg rfl rfl rfl (by simp [Value.oneCell']) ?_)
          all_goals (refine nx_op ?_; refine opw_yld (Yld.assign rfl) rfl ?_)
          all_goals refine nx_nil ?_
          all_goals refine kp_code_normal ?_
          all_goals refine nx_ret ?_
          all_goals (exact resC2 (by first | exact .inl rfl | exact .inr rfl) Tryd.results93 rfl rfl [wc b T.t dir (40 - (fuel : Int))] inferInstance ⟨dir, _, rfl, by simp [foV], rfl, Nat.le_refl _⟩)
        · have hb : (kindA (abs T.S) n == 3) = false := by simpa using hk3
          all_goals refine nx_seq ?_
          all_goals refine nx_region ?_
          all_goals (refine nx_op ?_; refine opw_alc Alc.alloc rfl (fun b8 => ?_))
          all_goals (refine nx_op ?_; refine opw_yld (Yld.assign rfl) rfl ?_)
          all_goals refine nx_nil ?_
          all_goals refine kp_code_normal ?_
          all_goals refine nx_seq ?_
          all_goals refine nx_draw (fun i => match i with | 3 => .read | 7 => .read | 9 => .hard | _ => .stab) [] [0, 1, 2, 3, 4, 5, 6, 7, 8, 9, 10, 11, 12, 13, 14] rfl (by kernel_rfl) inferInstance ?_
          all_goals (refine wk_stab rfl rfl (Yld.move rfl) rfl ?_)
          all_goals (refine wk_stab rfl rfl (Yld.nilCheck rfl) rfl ?_)
          all_goals (refine wk_stab rfl rfl (Yld.fieldAddr rfl) rfl ?_)
          all_goals (refine wk_read rfl rfl (Yld.load rfl) rfl ?_)
          all_goals (refine wk_stab rfl rfl (Yld.move rfl) rfl ?_)
          all_goals (refine wk_stab rfl rfl (Yld.nilCheck rfl) rfl ?_)
          all_goals (refine wk_stab rfl rfl (Yld.fieldAddr rfl) rfl ?_)
          all_goals (refine wk_read rfl rfl (Yld.load rfl) rfl ?_)
          all_goals (refine wk_stab rfl rfl (Yld.move rfl) rfl ?_)
          all_goals ((refine wk_hard rfl rfl ?_; (refine opw_call rfl (sp61 (hT.mono (by simp +contextual)) dir nm) inferInstance rfl ?_; rintro _ _ ⟨rfl, rfl⟩; simp only [List.nil_append, findR_abs, hfd, pairV]); refine nx_keeps inferInstance ?_))
          all_goals (refine wk_stab rfl rfl (Yld.move rfl) rfl ?_)
          all_goals (refine wk_stab rfl rfl (Yld.extract rfl rfl) rfl ?_)
          all_goals (refine wk_stab rfl rfl (Yld.extract rfl rfl) rfl ?_)
          all_goals (refine wk_stab rfl rfl (Yld.assign rfl) rfl ?_)
          all_goals (refine wk_stab rfl rfl (Yld.assign rfl) rfl ?_)
          all_goals refine wk_nil ?_
          all_goals refine kp_code_normal ?_
          all_goals refine nx_seq ?_
          all_goals refine nx_block ?_
          all_goals refine nx_seq ?_
          all_goals refine nx_region ?_
          all_goals (refine nx_op ?_; refine opw_yld (Yld.move rfl) rfl ?_)
          all_goals (refine nx_op ?_; refine opw_yld (Yld.cmp rfl rfl rfl) rfl ?_)
          all_goals (refine nx_op ?_; refine opw_yld (Yld.move rfl) rfl ?_)
          all_goals (first | refine nx_guard_n rfl (by first | rfl | assumption) rfl ?_ | refine nx_guard_u rfl rfl ?_ | ((first | refine nx_guard_y rfl (by first | rfl | assumption) ?_ | refine nx_guard rfl rfl (fun hc => ?_) (fun hc => ?_)); all_goals (first | (refine opw_yld (Yld.move rfl) rfl ?_) | skip)))
          all_goals (first | refine nx_guard_n rfl (by first | rfl | assumption) rfl ?_ | refine nx_guard_u rfl rfl ?_ | ((first | refine nx_guard_y rfl (by first | rfl | assumption) ?_ | refine nx_guard rfl rfl (fun hc => ?_) (fun hc => ?_)); all_goals (first | (refine opw_yld (Yld.not rfl) rfl ?_) | skip)))
          all_goals (refine nx_op ?_; (first | refine opw_yld (Yld.pick_t rfl (by first | rfl | assumption) rfl) rfl ?_ | refine opw_yld (Yld.pick_f rfl (by first | rfl | assumption) rfl) rfl ?_))
          all_goals (refine nx_op ?_; refine opw_yld (Yld.move rfl) rfl ?_)
          all_goals (first | refine nx_guard_n rfl (by first | rfl | assumption) rfl ?_ | refine nx_guard_u rfl rfl ?_ | ((first | refine nx_guard_y rfl (by first | rfl | assumption) ?_ | refine nx_guard rfl rfl (fun hc => ?_) (fun hc => ?_)); all_goals (first | (refine opw_yld (Yld.move rfl) rfl ?_) | skip)))
          all_goals (first | refine nx_guard_n rfl (by first | rfl | assumption) rfl ?_ | refine nx_guard_u rfl rfl ?_ | ((first | refine nx_guard_y rfl (by first | rfl | assumption) ?_ | refine nx_guard rfl rfl (fun hc => ?_) (fun hc => ?_)); all_goals (first | (refine opw_yld (Yld.move rfl) rfl ?_) | skip)))
          all_goals (first | refine nx_guard_n rfl (by first | rfl | assumption) rfl ?_ | refine nx_guard_u rfl rfl ?_ | ((first | refine nx_guard_y rfl (by first | rfl | assumption) ?_ | refine nx_guard rfl rfl (fun hc => ?_) (fun hc => ?_)); all_goals (first | (refine opw_yld (Yld.nilCheck rfl) rfl ?_) | skip)))
          all_goals (first | refine nx_guard_n rfl (by first | rfl | assumption) rfl ?_ | refine nx_guard_u rfl rfl ?_ | ((first | refine nx_guard_y rfl (by first | rfl | assumption) ?_ | refine nx_guard rfl rfl (fun hc => ?_) (fun hc => ?_)); all_goals (first | (refine opw_yld (Yld.fieldAddr rfl) rfl ?_) | skip)))
          all_goals (first | refine nx_guard_n rfl (by first | rfl | assumption) rfl ?_ | refine nx_guard_u rfl rfl ?_ | ((first | refine nx_guard_y rfl (by first | rfl | assumption) ?_ | refine nx_guard rfl rfl (fun hc => ?_) (fun hc => ?_)); all_goals (first | (refine opw_yld (Yld.load rfl) rfl ?_) | skip)))
          all_goals (first | refine nx_guard_n rfl (by first | rfl | assumption) rfl ?_ | refine nx_guard_u rfl rfl ?_ | ((first | refine nx_guard_y rfl (by first | rfl | assumption) ?_ | refine nx_guard rfl rfl (fun hc => ?_) (fun hc => ?_)); all_goals (first | ((refine opw_call rfl (sp130 (hT.mono (by simp +contextual)) _ (b := b) (hb := by intro y hy; simp only [wc, List.mem_singleton] at hy; subst hy; simp; first | exact ⟨rfl, rfl⟩ | exact Or.inl ⟨rfl, rfl⟩ | exact Or.inr (Or.inl ⟨rfl, rfl⟩))) inferInstance rfl ?_; rintro _ _ ⟨rfl, rfl⟩; simp only [List.nil_append])) | skip)))
          all_goals (first | refine nx_guard_n rfl (by first | rfl | assumption) rfl ?_ | refine nx_guard_u rfl rfl ?_ | ((first | refine nx_guard_y rfl (by first | rfl | assumption) ?_ | refine nx_guard rfl rfl (fun hc => ?_) (fun hc => ?_)); all_goals (first | (refine opw_yld (Yld.cmp rfl rfl rfl) rfl ?_) | skip)))
          all_goals (refine nx_op ?_; (first | refine opw_yld (Yld.pick_t rfl (by first | rfl | assumption) rfl) rfl ?_ | refine opw_yld (Yld.pick_f rfl (by first | rfl | assumption) rfl) rfl ?_))
          all_goals (refine nx_op ?_; refine opw_yld (Yld.assign rfl) rfl ?_)
          all_goals refine nx_nil ?_
          all_goals refine kp_code_normal ?_
          all_goals (refine nx_cond rfl (fun hc => ?_) (fun hc => ?_))
          all_goals (first | (exact Bool.noConfusion (hc.symm.trans (by first | rfl | assumption) : true = false)) | (exact Bool.noConfusion (hc.symm.trans (by first | rfl | assumption) : false = true)) | (all_goals refine nx_seq ?_; all_goals refine nx_region ?_; all_goals (refine nx_op ?_; refine opw_yld (Yld.move rfl) rfl ?_); all_goals (refine nx_op ?_; refine opw_yld (Yld.nilCheck rfl) rfl ?_); all_goals (refine nx_op ?_; refine opw_yld (Yld.fieldAddr rfl) rfl ?_); all_goals (refine nx_op ?_; refine opw_yld (Yld.load rfl) rfl ?_); all_goals (refine nx_op ?_; refine opw_yld (Yld.move rfl) rfl ?_); all_goals (refine nx_op ?_; refine opw_yld (Yld.build rfl rfl) rfl ?_); all_goals (refine nx_op ?_; refine opw_storeAgg rfl rfl rfl (by simp [Value.oneCell']) ?_); all_goals (refine nx_op ?_; refine opw_yld (Yld.assign rfl) rfl ?_); all_goals refine nx_nil ?_; all_goals refine kp_code_normal ?_; all_goals refine nx_ret ?_; all_goals refine kp_blk_ret ?_; all_goals refine kp_code_ret ?_; all_goals (exact resC2 (by first | exact .inl rfl | exact .inr rfl) Tryd.results93 rfl rfl [wc b T.t dir (40 - (fuel : Int))] inferInstance ⟨dir, _, rfl, by simp [foV], rfl, Nat.le_refl _⟩)) | (all_goals refine nx_seq ?_; all_goals refine nx_region ?_; all_goals (refine nx_op ?_; refine opw_yld (Yld.move rfl) rfl ?_); all_goals (refine nx_op ?_; refine opw_yld (Yld.cmp rfl rfl rfl) rfl ?_); all_goals (refine nx_op ?_; refine opw_yld (Yld.assign rfl) rfl ?_); all_goals refine nx_nil ?_; all_goals refine kp_code_normal ?_; all_goals (refine nx_cond rfl (fun hc => ?_) (fun hc => ?_)); all_goals (first | (exact Bool.noConfusion (hc.symm.trans (by first | rfl | assumption) : true = false)) | (exact Bool.noConfusion (hc.symm.trans (by first | rfl | assumption) : false = true)) | (all_goals refine nx_seq ?_; all_goals refine nx_region ?_; all_goals (refine nx_op ?_; refine opw_yld (Yld.build rfl rfl) rfl ?_); all_goals (refine nx_op ?_; refine opw_yld (Yld.move rfl) rfl ?_); all_goals (refine nx_op ?_; refine opw_storeAgg rfl rfl rfl (by simp [Value.oneCell']) ?_); all_goals (refine nx_op ?_; refine opw_yld (Yld.assign rfl) rfl ?_); all_goals refine nx_nil ?_; all_goals refine kp_code_normal ?_; all_goals refine nx_ret ?_; all_goals refine kp_blk_ret ?_; all_goals refine kp_code_ret ?_; all_goals (exact resC2 (by first | exact .inl rfl | exact .inr rfl) Tryd.results93 rfl rfl [wc b T.t dir (40 - (fuel : Int))] inferInstance ⟨dir, _, rfl, by simp [foV], rfl, Nat.le_refl _⟩)) | (all_goals refine nx_skip ?_))))
          all_goals refine kp_blk_normal ?_
          all_goals refine kp_code_normal ?_
          all_goals refine nx_seq ?_
          all_goals refine nx_region ?_
          all_goals (refine nx_op ?_; refine opw_yld (Yld.move rfl) rfl ?_)
          all_goals (refine nx_op ?_; refine opw_yld (Yld.nilCheck rfl) rfl ?_)
          all_goals (refine nx_op ?_; refine opw_yld (Yld.fieldAddr rfl) rfl ?_)
          all_goals (refine nx_op ?_; refine opw_yld (Yld.load rfl) rfl ?_)
          all_goals (refine nx_op ?_; refine opw_yld (Yld.move rfl) rfl ?_)
          all_goals (refine nx_op ?_; refine opw_yld (Yld.move rfl) rfl ?_)
          all_goals (refine nx_op ?_; refine opw_yld (Yld.build (cs := [.int .i64 dir, .string nm, .int .i64 n]) rfl rfl) rfl ?_)
          all_goals (refine nx_op ?_; refine opw_alc Alc.alloc rfl (fun b12 => ?_))
          all_goals (refine nx_op ?_; refine opw_storeAgg rfl rfl rfl (by simp [Value.oneCell']) ?_)
          all_goals refine nx_nil ?_
          all_goals refine kp_code_normal ?_
          all_goals refine nx_seq ?_
          all_goals refine nx_seq ?_
          all_goals refine nx_region ?_
          all_goals (refine nx_op ?_; refine opw_yld (Yld.move rfl) rfl ?_)
          all_goals (refine nx_op ?_; refine opw_yld (Yld.move rfl) rfl ?_)
          all_goals (refine nx_op ?_; (refine opw_call rfl (sp130 (hT.mono (by simp +contextual)) _ (b := b) (hb := by intro y hy; simp only [wc, List.mem_singleton] at hy; subst hy; simp; first | exact ⟨rfl, rfl⟩ | exact Or.inl ⟨rfl, rfl⟩ | exact Or.inr (Or.inl ⟨rfl, rfl⟩))) inferInstance rfl ?_; rintro _ _ ⟨rfl, rfl⟩; simp only [List.nil_append]))
          all_goals (refine nx_op ?_; refine opw_yld (Yld.cmp rfl rfl rfl) rfl ?_)
          all_goals (refine nx_op ?_; refine opw_yld (Yld.move rfl) rfl ?_)
          all_goals (first | refine nx_guard_n rfl (by first | rfl | assumption) rfl ?_ | refine nx_guard_u rfl rfl ?_ | ((first | refine nx_guard_y rfl (by first | rfl | assumption) ?_ | refine nx_guard rfl rfl (fun hc => ?_) (fun hc => ?_)); all_goals (first | (refine opw_yld (Yld.move rfl) rfl ?_) | skip)))
          all_goals (first | refine nx_guard_n rfl (by first | rfl | assumption) rfl ?_ | refine nx_guard_u rfl rfl ?_ | ((first | refine nx_guard_y rfl (by first | rfl | assumption) ?_ | refine nx_guard rfl rfl (fun hc => ?_) (fun hc => ?_)); all_goals (first | (refine opw_yld (Yld.move rfl) rfl ?_) | skip)))
          all_goals (first | refine nx_guard_n rfl (by first | rfl | assumption) rfl ?_ | refine nx_guard_u rfl rfl ?_ | ((first | refine nx_guard_y rfl (by first | rfl | assumption) ?_ | refine nx_guard rfl rfl (fun hc => ?_) (fun hc => ?_)); all_goals (first | (refine opw_yld (Yld.move rfl) rfl ?_) | skip)))
          all_goals (first | refine nx_guard_n rfl (by first | rfl | assumption) rfl ?_ | refine nx_guard_u rfl rfl ?_ | ((first | refine nx_guard_y rfl (by first | rfl | assumption) ?_ | refine nx_guard rfl rfl (fun hc => ?_) (fun hc => ?_)); all_goals (first | ((first | refine opw_yld (Yld.pick_t rfl (by first | rfl | assumption) rfl) rfl ?_ | refine opw_yld (Yld.pick_f rfl (by first | rfl | assumption) rfl) rfl ?_)) | skip)))
          all_goals (refine nx_op ?_; (first | refine opw_yld (Yld.pick_t rfl (by first | rfl | assumption) rfl) rfl ?_ | refine opw_yld (Yld.pick_f rfl (by first | rfl | assumption) rfl) rfl ?_))
          all_goals refine nx_nil ?_
          all_goals refine kp_code_normal ?_
          all_goals (refine nx_cond rfl (fun hc => ?_) (fun hc => ?_))
          all_goals (first | (exact Bool.noConfusion (hc.symm.trans (by first | rfl | assumption) : true = false)) | (exact Bool.noConfusion (hc.symm.trans (by first | rfl | assumption) : false = true)) | (all_goals refine nx_seq ?_; all_goals refine nx_seq ?_; all_goals refine nx_region ?_; all_goals (refine nx_op ?_; refine opw_yld (Yld.move rfl) rfl ?_); all_goals (refine nx_op ?_; refine opw_yld (Yld.move rfl) rfl ?_); all_goals (refine nx_op ?_; (fail)); all_goals (refine nx_op ?_; refine opw_yld (Yld.move rfl) rfl ?_); all_goals (refine nx_op ?_; refine opw_yld (Yld.extract rfl rfl) rfl ?_); all_goals (refine nx_op ?_; refine opw_yld (Yld.extract rfl rfl) rfl ?_); all_goals (refine nx_op ?_; refine opw_storeAgg rfl rfl rfl (by simp [Value.oneCell']) ?_); all_goals (refine nx_op ?_; refine opw_yld (Yld.assign rfl) rfl ?_); all_goals refine nx_nil ?_; all_goals refine kp_code_normal ?_; all_goals refine nx_seq ?_; all_goals refine nx_region ?_; all_goals (refine nx_op ?_; refine opw_yld (Yld.move rfl) rfl ?_); all_goals (refine nx_op ?_; refine opw_yld (Yld.cmp rfl rfl rfl) rfl ?_); all_goals refine nx_nil ?_; all_goals refine kp_code_normal ?_; all_goals (refine nx_cond rfl (fun hc => ?_) (fun hc => ?_)); all_goals (first | (exact Bool.noConfusion (hc.symm.trans (by first | rfl | assumption) : true = false)) | (exact Bool.noConfusion (hc.symm.trans (by first | rfl | assumption) : false = true)) | (all_goals refine nx_seq ?_; all_goals refine nx_region ?_; all_goals (refine nx_op ?_; refine opw_yld (Yld.build rfl rfl) rfl ?_); all_goals (refine nx_op ?_; refine opw_yld (Yld.move rfl) rfl ?_); all_goals (refine nx_op ?_; refine opw_storeAgg rfl rfl rfl (by simp [Value.oneCell']) ?_); all_goals (refine nx_op ?_; refine opw_yld (Yld.assign rfl) rfl ?_); all_goals refine nx_nil ?_; all_goals refine kp_code_normal ?_; all_goals refine nx_ret ?_; all_goals refine kp_code_ret ?_; all_goals refine kp_code_ret ?_; all_goals (exact resC2 (by first | exact .inl rfl | exact .inr rfl) Tryd.results93 rfl rfl [wc b T.t dir (40 - (fuel : Int))] inferInstance ⟨dir, _, rfl, by simp [foV], rfl, Nat.le_refl _⟩)) | (all_goals refine nx_skip ?_)); all_goals refine kp_code_normal ?_; all_goals refine nx_seq ?_; all_goals refine nx_region ?_; all_goals (refine nx_op ?_; refine opw_yld (Yld.fieldAddr rfl) rfl ?_); all_goals (refine nx_op ?_; refine opw_yld (Yld.load rfl) rfl ?_); all_goals (refine nx_op ?_; refine opw_yld (Yld.cmp rfl rfl rfl) rfl ?_); all_goals (refine nx_op ?_; refine opw_yld (Yld.move rfl) rfl ?_); all_goals (first | refine nx_guard_n rfl (by first | rfl | assumption) rfl ?_ | refine nx_guard_u rfl rfl ?_ | ((first | refine nx_guard_y rfl (by first | rfl | assumption) ?_ | refine nx_guard rfl rfl (fun hc => ?_) (fun hc => ?_)); all_goals (first | (refine opw_yld (Yld.move rfl) rfl ?_) | skip))); all_goals (refine nx_op ?_; (first | refine opw_yld (Yld.pick_t rfl (by first | rfl | assumption) rfl) rfl ?_ | refine opw_yld (Yld.pick_f rfl (by first | rfl | assumption) rfl) rfl ?_)); all_goals refine nx_nil ?_; all_goals refine kp_code_normal ?_; all_goals (refine nx_cond rfl (fun hc => ?_) (fun hc => ?_)); all_goals (first | (exact Bool.noConfusion (hc.symm.trans (by first | rfl | assumption) : true = false)) | (exact Bool.noConfusion (hc.symm.trans (by first | rfl | assumption) : false = true)) | (all_goals refine nx_seq ?_; all_goals refine nx_region ?_; all_goals (refine nx_op ?_; refine opw_yld (Yld.build rfl rfl) rfl ?_); all_goals (refine nx_op ?_; refine opw_storeAgg rfl rfl rfl (by simp [Value.oneCell']) ?_); all_goals (refine nx_op ?_; refine opw_yld (Yld.assign rfl) rfl ?_); all_goals refine nx_nil ?_; all_goals refine kp_code_normal ?_; all_goals refine nx_ret ?_; all_goals refine kp_code_ret ?_; all_goals (exact resC2 (by first | exact .inl rfl | exact .inr rfl) Tryd.results93 rfl rfl [wc b T.t dir (40 - (fuel : Int))] inferInstance ⟨dir, _, rfl, by simp [foV], rfl, Nat.le_refl _⟩)) | (all_goals refine nx_skip ?_))) | (all_goals refine nx_skip ?_))
          all_goals refine kp_code_normal ?_
          all_goals refine nx_seq ?_
          all_goals refine nx_seq ?_
          all_goals refine nx_region ?_
          all_goals (refine nx_op ?_; refine opw_yld (Yld.move rfl) rfl ?_)
          all_goals (refine nx_op ?_; refine opw_yld (Yld.move rfl) rfl ?_)
          all_goals (first | refine nx_guard_n rfl (by first | rfl | assumption) rfl ?_ | refine nx_guard_u rfl rfl ?_ | ((first | refine nx_guard_y rfl (by first | rfl | assumption) ?_ | refine nx_guard rfl rfl (fun hc => ?_) (fun hc => ?_)); all_goals (first | (refine opw_yld (Yld.move rfl) rfl ?_) | skip)))
          all_goals (first | refine nx_guard_n rfl (by first | rfl | assumption) rfl ?_ | refine nx_guard_u rfl rfl ?_ | ((first | refine nx_guard_y rfl (by first | rfl | assumption) ?_ | refine nx_guard rfl rfl (fun hc => ?_) (fun hc => ?_)); all_goals (first | (refine opw_yld (Yld.fieldAddr rfl) rfl ?_) | skip)))
          all_goals (first | refine nx_guard_n rfl (by first | rfl | assumption) rfl ?_ | refine nx_guard_u rfl rfl ?_ | ((first | refine nx_guard_y rfl (by first | rfl | assumption) ?_ | refine nx_guard rfl rfl (fun hc => ?_) (fun hc => ?_)); all_goals (first | (refine opw_yld (Yld.load rfl) rfl ?_) | skip)))
          all_goals (first | refine nx_guard_n rfl (by first | rfl | assumption) rfl ?_ | refine nx_guard_u rfl rfl ?_ | ((first | refine nx_guard_y rfl (by first | rfl | assumption) ?_ | refine nx_guard rfl rfl (fun hc => ?_) (fun hc => ?_)); all_goals (first | ((refine opw_call rfl (sp130 (hT.mono (by simp +contextual)) _ (b := b) (hb := by intro y hy; simp only [wc, List.mem_singleton] at hy; subst hy; simp; first | exact ⟨rfl, rfl⟩ | exact Or.inl ⟨rfl, rfl⟩ | exact Or.inr (Or.inl ⟨rfl, rfl⟩))) inferInstance rfl ?_; rintro _ _ ⟨rfl, rfl⟩; simp only [List.nil_append])) | skip)))
          all_goals (first | refine nx_guard_n rfl (by first | rfl | assumption) rfl ?_ | refine nx_guard_u rfl rfl ?_ | ((first | refine nx_guard_y rfl (by first | rfl | assumption) ?_ | refine nx_guard rfl rfl (fun hc => ?_) (fun hc => ?_)); all_goals (first | (refine opw_yld (Yld.cmp rfl rfl rfl) rfl ?_) | skip)))
          all_goals (refine nx_op ?_; (first | refine opw_yld (Yld.pick_t rfl (by first | rfl | assumption) rfl) rfl ?_ | refine opw_yld (Yld.pick_f rfl (by first | rfl | assumption) rfl) rfl ?_))
          all_goals refine nx_nil ?_
          all_goals refine kp_code_normal ?_
          all_goals (refine nx_cond rfl (fun hc => ?_) (fun hc => ?_))
          all_goals (first | (exact Bool.noConfusion (hc.symm.trans (by first | rfl | assumption) : true = false)) | (exact Bool.noConfusion (hc.symm.trans (by first | rfl | assumption) : false = true)) | (all_goals refine nx_seq ?_; all_goals refine nx_region ?_; all_goals (refine nx_op ?_; refine opw_yld (Yld.build rfl rfl) rfl ?_); all_goals (refine nx_op ?_; refine opw_storeAgg rfl rfl rfl (by simp [Value.oneCell']) ?_); all_goals (refine nx_op ?_; refine opw_yld (Yld.assign rfl) rfl ?_); all_goals refine nx_nil ?_; all_goals refine kp_code_normal ?_; all_goals refine nx_ret ?_; all_goals refine kp_code_ret ?_; all_goals (exact resC2 (by first | exact .inl rfl | exact .inr rfl) Tryd.results93 rfl rfl [wc b T.t dir (40 - (fuel : Int))] inferInstance ⟨dir, _, rfl, by simp [foV], rfl, Nat.le_refl _⟩)) | (all_goals refine nx_skip ?_))
          all_goals refine kp_code_normal ?_
          all_goals refine nx_seq ?_
          all_goals refine nx_region ?_
          all_goals (refine nx_op ?_; refine opw_yld (Yld.loadAgg rfl) rfl ?_)
          all_goals (refine nx_op ?_; refine opw_storeAgg rfl rfl rfl (by simp [Value.oneCell']) ?_)
          all_goals (refine nx_op ?_; refine opw_yld (Yld.assign rfl) rfl ?_)
          all_goals refine nx_nil ?_
          all_goals refine kp_code_normal ?_
          all_goals refine nx_ret ?_
          all_goals (exact resC2 (by first | exact .inl rfl | exact .inr rfl) Tryd.results93 rfl rfl [wc b T.t dir (40 - (fuel : Int))] inferInstance ⟨dir, _, rfl, by simp [foV], rfl, Nat.le_refl _⟩)
  have h131 : ∀ F', InT F' T → Sp Tryd.prog 131 [.pointer (some ⟨b, 0, none⟩), .int .i64 n] F' [wc b T.t dir (40 - (fuel : Int))] (WPost b T.t fuel (followA (abs T.S) R dir n fuel)) := fun F' h => sp131 hR h dir n fuel hf hN
  have hr : lastA (abs T.S) R dir (bs nm) fol isDir fuel = (match followA (abs T.S) R dir n fuel with
    | .error e => .error e
    | .ok (f, k) => lastB (abs T.S) isDir f k) := by
    unfold lastA; rw [hfd]; simp only; rw [if_neg (by simp), if_neg (by simp), if_pos hk]
  rw [hr]
  obtain ⟨hk3, hfi⟩ := hk
  have hb : (kindA (abs T.S) n == 3) = true := by simp [hk3]
  have hfd2 : fol = true ∨ (fol = false ∧ isDir = true) := by cases fol <;> simp_all
  clear hfi hr
  generalize followA (abs T.S) R dir n fuel = r at h131
  rcases r with e' | ⟨⟨f1, f2, f3⟩, k⟩
  · by_cases he' : e' = 0
    · subst he'
      rcases hfd2 with rfl | ⟨rfl, rfl⟩
      all_goals skip
      all_goals refine nx_seq ?_
      all_goals refine nx_region ?_
      all_goals (refine nx_op ?_; refine opw_alc Alc.alloc rfl (fun b8 => ?_))
      all_goals (refine nx_op ?_; refine opw_yld (Yld.assign rfl) rfl ?_)
      all_goals refine nx_nil ?_
      all_goals refine kp_code_normal ?_
      all_goals refine nx_seq ?_
      all_goals refine nx_draw (fun i => match i with | 3 => .read | 7 => .read | 9 => .hard | _ => .stab) [] [0, 1, 2, 3, 4, 5, 6, 7, 8, 9, 10, 11, 12, 13, 14] rfl (by kernel_rfl) inferInstance ?_
      all_goals (refine wk_stab rfl rfl (Yld.move rfl) rfl ?_)
      all_goals (refine wk_stab rfl rfl (Yld.nilCheck rfl) rfl ?_)
      all_goals (refine wk_stab rfl rfl (Yld.fieldAddr rfl) rfl ?_)
      all_goals (refine wk_read rfl rfl (Yld.load rfl) rfl ?_)
      all_goals (refine wk_stab rfl rfl (Yld.move rfl) rfl ?_)
      all_goals (refine wk_stab rfl rfl (Yld.nilCheck rfl) rfl ?_)
      all_goals (refine wk_stab rfl rfl (Yld.fieldAddr rfl) rfl ?_)
      all_goals (refine wk_read rfl rfl (Yld.load rfl) rfl ?_)
      all_goals (refine wk_stab rfl rfl (Yld.move rfl) rfl ?_)
      all_goals ((refine wk_hard rfl rfl ?_; (refine opw_call rfl (sp61 (hT.mono (by simp +contextual)) dir nm) inferInstance rfl ?_; rintro _ _ ⟨rfl, rfl⟩; simp only [List.nil_append, findR_abs, hfd, pairV]); refine nx_keeps inferInstance ?_))
      all_goals (refine wk_stab rfl rfl (Yld.move rfl) rfl ?_)
      all_goals (refine wk_stab rfl rfl (Yld.extract rfl rfl) rfl ?_)
      all_goals (refine wk_stab rfl rfl (Yld.extract rfl rfl) rfl ?_)
      all_goals (refine wk_stab rfl rfl (Yld.assign rfl) rfl ?_)
      all_goals (refine wk_stab rfl rfl (Yld.assign rfl) rfl ?_)
      all_goals refine wk_nil ?_
      all_goals refine kp_code_normal ?_
      all_goals refine nx_seq ?_
      all_goals refine nx_block ?_
      all_goals refine nx_seq ?_
      all_goals refine nx_region ?_
      all_goals (refine nx_op ?_; refine opw_yld (Yld.move rfl) rfl ?_)
      all_goals (refine nx_op ?_; refine opw_yld (Yld.cmp rfl rfl rfl) rfl ?_)
      all_goals (refine nx_op ?_; refine opw_yld (Yld.move rfl) rfl ?_)
      all_goals (first | refine nx_guard_n rfl (by first | rfl | assumption) rfl ?_ | refine nx_guard_u rfl rfl ?_ | ((first | refine nx_guard_y rfl (by first | rfl | assumption) ?_ | refine nx_guard rfl rfl (fun hc => ?_) (fun hc => ?_)); all_goals (first | (refine opw_yld (Yld.move rfl) rfl ?_) | skip)))
      all_goals (first | refine nx_guard_n rfl (by first | rfl | assumption) rfl ?_ | refine nx_guard_u rfl rfl ?_ | ((first | refine nx_guard_y rfl (by first | rfl | assumption) ?_ | refine nx_guard rfl rfl (fun hc => ?_) (fun hc => ?_)); all_goals (first | (refine opw_yld (Yld.not rfl) rfl ?_) | skip)))
      all_goals (refine nx_op ?_; (first | refine opw_yld (Yld.pick_t rfl (by first | rfl | assumption) rfl) rfl ?_ | refine opw_yld (Yld.pick_f rfl (by first | rfl | assumption) rfl) rfl ?_))
      all_goals (refine nx_op ?_; refine opw_yld (Yld.move rfl) rfl ?_)
      all_goals (first | refine nx_guard_n rfl (by first | rfl | assumption) rfl ?_ | refine nx_guard_u rfl rfl ?_ | ((first | refine nx_guard_y rfl (by first | rfl | assumption) ?_ | refine nx_guard rfl rfl (fun hc => ?_) (fun hc => ?_)); all_goals (first | (refine opw_yld (Yld.move rfl) rfl ?_) | skip)))
      all_goals (first | refine nx_guard_n rfl (by first | rfl | assumption) rfl ?_ | refine nx_guard_u rfl rfl ?_ | ((first | refine nx_guard_y rfl (by first | rfl | assumption) ?_ | refine nx_guard rfl rfl (fun hc => ?_) (fun hc => ?_)); all_goals (first | (refine opw_yld (Yld.move rfl) rfl ?_) | skip)))
      all_goals (first | refine nx_guard_n rfl (by first | rfl | assumption) rfl ?_ | refine nx_guard_u rfl rfl ?_ | ((first | refine nx_guard_y rfl (by first | rfl | assumption) ?_ | refine nx_guard rfl rfl (fun hc => ?_) (fun hc => ?_)); all_goals (first | (refine opw_yld (Yld.nilCheck rfl) rfl ?_) | skip)))
      all_goals (first | refine nx_guard_n rfl (by first | rfl | assumption) rfl ?_ | refine nx_guard_u rfl rfl ?_ | ((first | refine nx_guard_y rfl (by first | rfl | assumption) ?_ | refine nx_guard rfl rfl (fun hc => ?_) (fun hc => ?_)); all_goals (first | (refine opw_yld (Yld.fieldAddr rfl) rfl ?_) | skip)))
      all_goals (first | refine nx_guard_n rfl (by first | rfl | assumption) rfl ?_ | refine nx_guard_u rfl rfl ?_ | ((first | refine nx_guard_y rfl (by first | rfl | assumption) ?_ | refine nx_guard rfl rfl (fun hc => ?_) (fun hc => ?_)); all_goals (first | (refine opw_yld (Yld.load rfl) rfl ?_) | skip)))
      all_goals (first | refine nx_guard_n rfl (by first | rfl | assumption) rfl ?_ | refine nx_guard_u rfl rfl ?_ | ((first | refine nx_guard_y rfl (by first | rfl | assumption) ?_ | refine nx_guard rfl rfl (fun hc => ?_) (fun hc => ?_)); all_goals (first | ((refine opw_call rfl (sp130 (hT.mono (by simp +contextual)) _ (b := b) (hb := by intro y hy; simp only [wc, List.mem_singleton] at hy; subst hy; simp; first | exact ⟨rfl, rfl⟩ | exact Or.inl ⟨rfl, rfl⟩ | exact Or.inr (Or.inl ⟨rfl, rfl⟩))) inferInstance rfl ?_; rintro _ _ ⟨rfl, rfl⟩; simp only [List.nil_append])) | skip)))
      all_goals (first | refine nx_guard_n rfl (by first | rfl | assumption) rfl ?_ | refine nx_guard_u rfl rfl ?_ | ((first | refine nx_guard_y rfl (by first | rfl | assumption) ?_ | refine nx_guard rfl rfl (fun hc => ?_) (fun hc => ?_)); all_goals (first | (refine opw_yld (Yld.cmp rfl rfl rfl) rfl ?_) | skip)))
      all_goals (refine nx_op ?_; (first | refine opw_yld (Yld.pick_t rfl (by first | rfl | assumption) rfl) rfl ?_ | refine opw_yld (Yld.pick_f rfl (by first | rfl | assumption) rfl) rfl ?_))
      all_goals (refine nx_op ?_; refine opw_yld (Yld.assign rfl) rfl ?_)
      all_goals refine nx_nil ?_
      all_goals refine kp_code_normal ?_
      all_goals (refine nx_cond rfl (fun hc => ?_) (fun hc => ?_))
      all_goals (first | (exact Bool.noConfusion (hc.symm.trans (by first | rfl | assumption) : true = false)) | (exact Bool.noConfusion (hc.symm.trans (by first | rfl | assumption) : false = true)) | (all_goals refine nx_seq ?_; all_goals refine nx_region ?_; all_goals (refine nx_op ?_; refine opw_yld (Yld.move rfl) rfl ?_); all_goals (refine nx_op ?_; refine opw_yld (Yld.nilCheck rfl) rfl ?_); all_goals (refine nx_op ?_; refine opw_yld (Yld.fieldAddr rfl) rfl ?_); all_goals (refine nx_op ?_; refine opw_yld (Yld.load rfl) rfl ?_); all_goals (refine nx_op ?_; refine opw_yld (Yld.move rfl) rfl ?_); all_goals (refine nx_op ?_; refine opw_yld (Yld.build rfl rfl) rfl ?_); all_goals (refine nx_op ?_; refine opw_storeAgg rfl rfl rfl (by simp [Value.oneCell']) ?_); all_goals (refine nx_op ?_; refine opw_yld (Yld.assign rfl) rfl ?_); all_goals refine nx_nil ?_; all_goals refine kp_code_normal ?_; all_goals refine nx_ret ?_; all_goals refine kp_blk_ret ?_; all_goals refine kp_code_ret ?_) | (all_goals refine nx_seq ?_; all_goals refine nx_region ?_; all_goals (refine nx_op ?_; refine opw_yld (Yld.move rfl) rfl ?_); all_goals (refine nx_op ?_; refine opw_yld (Yld.cmp rfl rfl rfl) rfl ?_); all_goals (refine nx_op ?_; refine opw_yld (Yld.assign rfl) rfl ?_); all_goals refine nx_nil ?_; all_goals refine kp_code_normal ?_; all_goals (refine nx_cond rfl (fun hc => ?_) (fun hc => ?_)); all_goals (first | (exact Bool.noConfusion (hc.symm.trans (by first | rfl | assumption) : true = false)) | (exact Bool.noConfusion (hc.symm.trans (by first | rfl | assumption) : false = true)) | (all_goals refine nx_seq ?_; all_goals refine nx_region ?_; all_goals (refine nx_op ?_; refine opw_yld (Yld.build rfl rfl) rfl ?_); all_goals (refine nx_op ?_; refine opw_yld (Yld.move rfl) rfl ?_); all_goals (refine nx_op ?_; refine opw_storeAgg rfl rfl rfl (by simp [Value.oneCell']) ?_); all_goals (refine nx_op ?_; refine opw_yld (Yld.assign rfl) rfl ?_); all_goals refine nx_nil ?_; all_goals refine kp_code_normal ?_; all_goals refine nx_ret ?_; all_goals refine kp_blk_ret ?_; all_goals refine kp_code_ret ?_) | (all_goals refine nx_skip ?_))))
      all_goals refine kp_blk_normal ?_
      all_goals refine kp_code_normal ?_
      all_goals refine nx_seq ?_
      all_goals refine nx_region ?_
      all_goals (refine nx_op ?_; refine opw_yld (Yld.move rfl) rfl ?_)
      all_goals (refine nx_op ?_; refine opw_yld (Yld.nilCheck rfl) rfl ?_)
      all_goals (refine nx_op ?_; refine opw_yld (Yld.fieldAddr rfl) rfl ?_)
      all_goals (refine nx_op ?_; refine opw_yld (Yld.load rfl) rfl ?_)
      all_goals (refine nx_op ?_; refine opw_yld (Yld.move rfl) rfl ?_)
      all_goals (refine nx_op ?_; refine opw_yld (Yld.move rfl) rfl ?_)
      all_goals (refine nx_op ?_; refine opw_yld (Yld.build (cs := [.int .i64 dir, .string nm, .int .i64 n]) rfl rfl) rfl ?_)
      all_goals (refine nx_op ?_; refine opw_alc Alc.alloc rfl (fun b12 => ?_))
      all_goals (refine nx_op ?_; refine opw_storeAgg rfl rfl rfl (by simp [Value.oneCell']) ?_)
      all_goals refine nx_nil ?_
      all_goals refine kp_code_normal ?_
      all_goals refine nx_seq ?_
      all_goals refine nx_seq ?_
      all_goals refine nx_region ?_
      all_goals (refine nx_op ?_; refine opw_yld (Yld.move rfl) rfl ?_)
      all_goals (refine nx_op ?_; refine opw_yld (Yld.move rfl) rfl ?_)
      all_goals (refine nx_op ?_; (refine opw_call rfl (sp130 (hT.mono (by simp +contextual)) _ (b := b) (hb := by intro y hy; simp only [wc, List.mem_singleton] at hy; subst hy; simp; first | exact ⟨rfl, rfl⟩ | exact Or.inl ⟨rfl, rfl⟩ | exact Or.inr (Or.inl ⟨rfl, rfl⟩))) inferInstance rfl ?_; rintro _ _ ⟨rfl, rfl⟩; simp only [List.nil_append]))
      all_goals (refine nx_op ?_; refine opw_yld (Yld.cmp rfl rfl rfl) rfl ?_)
      all_goals (refine nx_op ?_; refine opw_yld (Yld.move rfl) rfl ?_)
      all_goals (first | refine nx_guard_n rfl (by first | rfl | assumption) rfl ?_ | refine nx_guard_u rfl rfl ?_ | ((first | refine nx_guard_y rfl (by first | rfl | assumption) ?_ | refine nx_guard rfl rfl (fun hc => ?_) (fun hc => ?_)); all_goals (first | (refine opw_yld (Yld.move rfl) rfl ?_) | skip)))
      all_goals (first | refine nx_guard_n rfl (by first | rfl | assumption) rfl ?_ | refine nx_guard_u rfl rfl ?_ | ((first | refine nx_guard_y rfl (by first | rfl | assumption) ?_ | refine nx_guard rfl rfl (fun hc => ?_) (fun hc => ?_)); all_goals (first | (refine opw_yld (Yld.move rfl) rfl ?_) | skip)))
      all_goals (first | refine nx_guard_n rfl (by first | rfl | assumption) rfl ?_ | refine nx_guard_u rfl rfl ?_ | ((first | refine nx_guard_y rfl (by first | rfl | assumption) ?_ | refine nx_guard rfl rfl (fun hc => ?_) (fun hc => ?_)); all_goals (first | (refine opw_yld (Yld.move rfl) rfl ?_) | skip)))
      all_goals (first | refine nx_guard_n rfl (by first | rfl | assumption) rfl ?_ | refine nx_guard_u rfl rfl ?_ | ((first | refine nx_guard_y rfl (by first | rfl | assumption) ?_ | refine nx_guard rfl rfl (fun hc => ?_) (fun hc => ?_)); all_goals (first | ((first | refine opw_yld (Yld.pick_t rfl (by first | rfl | assumption) rfl) rfl ?_ | refine opw_yld (Yld.pick_f rfl (by first | rfl | assumption) rfl) rfl ?_)) | skip)))
      all_goals (refine nx_op ?_; (first | refine opw_yld (Yld.pick_t rfl (by first | rfl | assumption) rfl) rfl ?_ | refine opw_yld (Yld.pick_f rfl (by first | rfl | assumption) rfl) rfl ?_))
      all_goals refine nx_nil ?_
      all_goals refine kp_code_normal ?_
      all_goals (refine nx_cond rfl (fun hc => ?_) (fun hc => ?_))
      all_goals (first | (exact Bool.noConfusion (hc.symm.trans (by first | rfl | assumption) : true = false)) | (exact Bool.noConfusion (hc.symm.trans (by first | rfl | assumption) : false = true)) | (all_goals refine nx_seq ?_; all_goals refine nx_seq ?_; all_goals refine nx_region ?_; all_goals (refine nx_op ?_; refine opw_yld (Yld.move rfl) rfl ?_); all_goals (refine nx_op ?_; refine opw_yld (Yld.move rfl) rfl ?_); all_goals (refine nx_op ?_; (refine opw_call rfl (h131 _ (hT.mono (by simp +contextual))) inferInstance rfl ?_; rintro v B ⟨d', l', rfl, h⟩; exact absurd rfl h.1)); all_goals (refine nx_op ?_; refine opw_yld (Yld.move rfl) rfl ?_); all_goals (refine nx_op ?_; refine opw_yld (Yld.extract rfl rfl) rfl ?_); all_goals (refine nx_op ?_; refine opw_yld (Yld.extract rfl rfl) rfl ?_); all_goals (refine nx_op ?_; refine opw_storeAgg rfl rfl rfl (by simp [Value.oneCell']) ?_); all_goals (refine nx_op ?_; refine opw_yld (Yld.assign rfl) rfl ?_); all_goals refine nx_nil ?_; all_goals refine kp_code_normal ?_; all_goals refine nx_seq ?_; all_goals refine nx_region ?_; all_goals (refine nx_op ?_; refine opw_yld (Yld.move rfl) rfl ?_); all_goals (refine nx_op ?_; refine opw_yld (Yld.cmp rfl rfl rfl) rfl ?_); all_goals refine nx_nil ?_; all_goals refine kp_code_normal ?_; all_goals (refine nx_cond rfl (fun hc => ?_) (fun hc => ?_)); all_goals (first | (exact Bool.noConfusion (hc.symm.trans (by first | rfl | assumption) : true = false)) | (exact Bool.noConfusion (hc.symm.trans (by first | rfl | assumption) : false = true)) | (all_goals refine nx_seq ?_; all_goals refine nx_region ?_; all_goals (refine nx_op ?_; refine opw_yld (Yld.build rfl rfl) rfl ?_); all_goals (refine nx_op ?_; refine opw_yld (Yld.move rfl) rfl ?_); all_goals (refine nx_op ?_; refine opw_storeAgg rfl rfl rfl (by simp [Value.oneCell']) ?_); all_goals (refine nx_op ?_; refine opw_yld (Yld.assign rfl) rfl ?_); all_goals refine nx_nil ?_; all_goals refine kp_code_normal ?_; all_goals refine nx_ret ?_; all_goals refine kp_code_ret ?_; all_goals refine kp_code_ret ?_) | (all_goals refine nx_skip ?_)); all_goals refine kp_code_normal ?_; all_goals refine nx_seq ?_; all_goals refine nx_region ?_; all_goals (refine nx_op ?_; refine opw_yld (Yld.fieldAddr rfl) rfl ?_); all_goals (refine nx_op ?_; refine opw_yld (Yld.load rfl) rfl ?_); all_goals (refine nx_op ?_; refine opw_yld (Yld.cmp rfl rfl rfl) rfl ?_); all_goals (refine nx_op ?_; refine opw_yld (Yld.move rfl) rfl ?_); all_goals (first | refine nx_guard_n rfl (by first | rfl | assumption) rfl ?_ | refine nx_guard_u rfl rfl ?_ | ((first | refine nx_guard_y rfl (by first | rfl | assumption) ?_ | refine nx_guard rfl rfl (fun hc => ?_) (fun hc => ?_)); all_goals (first | (refine opw_yld (Yld.move rfl) rfl ?_) | skip))); all_goals (refine nx_op ?_; (first | refine opw_yld (Yld.pick_t rfl (by first | rfl | assumption) rfl) rfl ?_ | refine opw_yld (Yld.pick_f rfl (by first | rfl | assumption) rfl) rfl ?_)); all_goals refine nx_nil ?_; all_goals refine kp_code_normal ?_; all_goals (refine nx_cond rfl (fun hc => ?_) (fun hc => ?_)); all_goals (first | (exact Bool.noConfusion (hc.symm.trans (by first | rfl | assumption) : true = false)) | (exact Bool.noConfusion (hc.symm.trans (by first | rfl | assumption) : false = true)) | (all_goals refine nx_seq ?_; all_goals refine nx_region ?_; all_goals (refine nx_op ?_; refine opw_yld (Yld.build rfl rfl) rfl ?_); all_goals (refine nx_op ?_; refine opw_storeAgg rfl rfl rfl (by simp [Value.oneCell']) ?_); all_goals (refine nx_op ?_; refine opw_yld (Yld.assign rfl) rfl ?_); all_goals refine nx_nil ?_; all_goals refine kp_code_normal ?_; all_goals refine nx_ret ?_; all_goals refine kp_code_ret ?_) | (all_goals refine nx_skip ?_))) | (all_goals refine nx_skip ?_))
      all_goals refine kp_code_normal ?_
      all_goals refine nx_seq ?_
      all_goals refine nx_seq ?_
      all_goals refine nx_region ?_
      all_goals (refine nx_op ?_; refine opw_yld (Yld.move rfl) rfl ?_)
      all_goals (refine nx_op ?_; refine opw_yld (Yld.move rfl) rfl ?_)
      all_goals (first | refine nx_guard_n rfl (by first | rfl | assumption) rfl ?_ | refine nx_guard_u rfl rfl ?_ | ((first | refine nx_guard_y rfl (by first | rfl | assumption) ?_ | refine nx_guard rfl rfl (fun hc => ?_) (fun hc => ?_)); all_goals (first | (refine opw_yld (Yld.move rfl) rfl ?_) | skip)))
      all_goals (first | refine nx_guard_n rfl (by first | rfl | assumption) rfl ?_ | refine nx_guard_u rfl rfl ?_ | ((first | refine nx_guard_y rfl (by first | rfl | assumption) ?_ | refine nx_guard rfl rfl (fun hc => ?_) (fun hc => ?_)); all_goals (first | (refine opw_yld (Yld.fieldAddr rfl) rfl ?_) | skip)))
      all_goals (first | refine nx_guard_n rfl (by first | rfl | assumption) rfl ?_ | refine nx_guard_u rfl rfl ?_ | ((first | refine nx_guard_y rfl (by first | rfl | assumption) ?_ | refine nx_guard rfl rfl (fun hc => ?_) (fun hc => ?_)); all_goals (first | (refine opw_yld (Yld.load rfl) rfl ?_) | skip)))
      all_goals (first | refine nx_guard_n rfl (by first | rfl | assumption) rfl ?_ | refine nx_guard_u rfl rfl ?_ | ((first | refine nx_guard_y rfl (by first | rfl | assumption) ?_ | refine nx_guard rfl rfl (fun hc => ?_) (fun hc => ?_)); all_goals (first | ((refine opw_call rfl (sp130 (hT.mono (by simp +contextual)) _ (b := b) (hb := by intro y hy; simp only [wc, List.mem_singleton] at hy; subst hy; simp; first | exact ⟨rfl, rfl⟩ | exact Or.inl ⟨rfl, rfl⟩ | exact Or.inr (Or.inl ⟨rfl, rfl⟩))) inferInstance rfl ?_; rintro _ _ ⟨rfl, rfl⟩; simp only [List.nil_append])) | skip)))
      all_goals (first | refine nx_guard_n rfl (by first | rfl | assumption) rfl ?_ | refine nx_guard_u rfl rfl ?_ | ((first | refine nx_guard_y rfl (by first | rfl | assumption) ?_ | refine nx_guard rfl rfl (fun hc => ?_) (fun hc => ?_)); all_goals (first | (refine opw_yld (Yld.cmp rfl rfl rfl) rfl ?_) | skip)))
      all_goals (refine nx_op ?_; (first | refine opw_yld (Yld.pick_t rfl (by first | rfl | assumption) rfl) rfl ?_ | refine opw_yld (Yld.pick_f rfl (by first | rfl | assumption) rfl) rfl ?_))
      all_goals refine nx_nil ?_
      all_goals refine kp_code_normal ?_
      all_goals (refine nx_cond rfl (fun hc => ?_) (fun hc => ?_))
      all_goals (first | (exact Bool.noConfusion (hc.symm.trans (by first | rfl | assumption) : true = false)) | (exact Bool.noConfusion (hc.symm.trans (by first | rfl | assumption) : false = true)) | (all_goals refine nx_seq ?_; all_goals refine nx_region ?_; all_goals (refine nx_op ?_; refine opw_yld (Yld.build rfl rfl) rfl ?_); all_goals (refine nx_op ?_; refine opw_storeAgg rfl rfl rfl (by simp [Value.oneCell']) ?_); all_goals (refine nx_op ?_; refine opw_yld (Yld.assign rfl) rfl ?_); all_goals refine nx_nil ?_; all_goals refine kp_code_normal ?_; all_goals refine nx_ret ?_; all_goals refine kp_code_ret ?_) | (all_goals refine nx_skip ?_))
      all_goals refine kp_code_normal ?_
      all_goals refine nx_seq ?_
      all_goals refine nx_region ?_
      all_goals (refine nx_op ?_; refine opw_yld (Yld.loadAgg rfl) rfl ?_)
      all_goals (refine nx_op ?_; refine opw_storeAgg rfl rfl rfl (by simp [Value.oneCell']) ?_)
      all_goals (refine nx_op ?_; refine opw_yld (Yld.assign rfl) rfl ?_)
      all_goals refine nx_nil ?_
      all_goals refine kp_code_normal ?_
      all_goals refine nx_ret ?_
    have hb3 : (e' != 0) = true := by simpa using he'
    rcases hfd2 with rfl | ⟨rfl, rfl⟩
    all_goals skip
    all_goals refine nx_seq ?_
    all_goals refine nx_region ?_
    all_goals (refine nx_op ?_; refine opw_alc Alc.alloc rfl (fun b8 => ?_))
    all_goals (refine nx_op ?_; refine opw_yld (Yld.assign rfl) rfl ?_)
    all_goals refine nx_nil ?_
    all_goals refine kp_code_normal ?_
    all_goals refine nx_seq ?_
    all_goals refine nx_draw (fun i => match i with | 3 => .read | 7 => .read | 9 => .hard | _ => .stab) [] [0, 1, 2, 3, 4, 5, 6, 7, 8, 9, 10, 11, 12, 13, 14] rfl (by kernel_rfl) inferInstance ?_
    all_goals (refine wk_stab rfl rfl (Yld.move rfl) rfl ?_)
    all_goals (refine wk_stab rfl rfl (Yld.nilCheck rfl) rfl ?_)
    all_goals (refine wk_stab rfl rfl (Yld.fieldAddr rfl) rfl ?_)
    all_goals (refine wk_read rfl rfl (Yld.load rfl) rfl ?_)
    all_goals (refine wk_stab rfl rfl (Yld.move rfl) rfl ?_)
    all_goals (refine wk_stab rfl rfl (Yld.nilCheck rfl) rfl ?_)
    all_goals (refine wk_stab rfl rfl (Yld.fieldAddr rfl) rfl ?_)
    all_goals (refine wk_read rfl rfl (Yld.load rfl) rfl ?_)
    all_goals (refine wk_stab rfl rfl (Yld.move rfl) rfl ?_)
    all_goals ((refine wk_hard rfl rfl ?_; (refine opw_call rfl (sp61 (hT.mono (by simp +contextual)) dir nm) inferInstance rfl ?_; rintro _ _ ⟨rfl, rfl⟩; simp only [List.nil_append, findR_abs, hfd, pairV]); refine nx_keeps inferInstance ?_))
    all_goals (refine wk_stab rfl rfl (Yld.move rfl) rfl ?_)
    all_goals (refine wk_stab rfl rfl (Yld.extract rfl rfl) rfl ?_)
    all_goals (refine wk_stab rfl rfl (Yld.extract rfl rfl) rfl ?_)
    all_goals (refine wk_stab rfl rfl (Yld.assign rfl) rfl ?_)
    all_goals (refine wk_stab rfl rfl (Yld.assign rfl) rfl ?_)
    all_goals refine wk_nil ?_
    all_goals refine kp_code_normal ?_
    all_goals refine nx_seq ?_
    all_goals refine nx_block ?_
    all_goals refine nx_seq ?_
    all_goals refine nx_region ?_
    all_goals (refine nx_op ?_; refine opw_yld (Yld.move rfl) rfl ?_)
    all_goals (refine nx_op ?_; refine opw_yld (Yld.cmp rfl rfl rfl) rfl ?_)
    all_goals (refine nx_op ?_; refine opw_yld (Yld.move rfl) rfl ?_)
    all_goals (first | refine nx_guard_n rfl (by first | rfl | assumption) rfl ?_ | refine nx_guard_u rfl rfl ?_ | ((first | refine nx_guard_y rfl (by first | rfl | assumption) ?_ | refine nx_guard rfl rfl (fun hc => ?_) (fun hc => ?_)); all_goals (first | (refine opw_yld (Yld.move rfl) rfl ?_) | skip)))
    all_goals (first | refine nx_guard_n rfl (by first | rfl | assumption) rfl ?_ | refine nx_guard_u rfl rfl ?_ | ((first | refine nx_guard_y rfl (by first | rfl | assumption) ?_ | refine nx_guard rfl rfl (fun hc => ?_) (fun hc => ?_)); all_goals (first | (refine opw_yld (Yld.not rfl) rfl ?_) | skip)))
    all_goals (refine nx_op ?_; (first | refine opw_yld (Yld.pick_t rfl (by first | rfl | assumption) rfl) rfl ?_ | refine opw_yld (Yld.pick_f rfl (by first | rfl | assumption) rfl) rfl ?_))
    all_goals (refine nx_op ?_; refine opw_yld (Yld.move rfl) rfl ?_)
    all_goals (first | refine nx_guard_n rfl (by first | rfl | assumption) rfl ?_ | refine nx_guard_u rfl rfl ?_ | ((first | refine nx_guard_y rfl (by first | rfl | assumption) ?_ | refine nx_guard rfl rfl (fun hc => ?_) (fun hc => ?_)); all_goals (first | (refine opw_yld (Yld.move rfl) rfl ?_) | skip)))
    all_goals (first | refine nx_guard_n rfl (by first | rfl | assumption) rfl ?_ | refine nx_guard_u rfl rfl ?_ | ((first | refine nx_guard_y rfl (by first | rfl | assumption) ?_ | refine nx_guard rfl rfl (fun hc => ?_) (fun hc => ?_)); all_goals (first | (refine opw_yld (Yld.move rfl) rfl ?_) | skip)))
    all_goals (first | refine nx_guard_n rfl (by first | rfl | assumption) rfl ?_ | refine nx_guard_u rfl rfl ?_ | ((first | refine nx_guard_y rfl (by first | rfl | assumption) ?_ | refine nx_guard rfl rfl (fun hc => ?_) (fun hc => ?_)); all_goals (first | (refine opw_yld (Yld.nilCheck rfl) rfl ?_) | skip)))
    all_goals (first | refine nx_guard_n rfl (by first | rfl | assumption) rfl ?_ | refine nx_guard_u rfl rfl ?_ | ((first | refine nx_guard_y rfl (by first | rfl | assumption) ?_ | refine nx_guard rfl rfl (fun hc => ?_) (fun hc => ?_)); all_goals (first | (refine opw_yld (Yld.fieldAddr rfl) rfl ?_) | skip)))
    all_goals (first | refine nx_guard_n rfl (by first | rfl | assumption) rfl ?_ | refine nx_guard_u rfl rfl ?_ | ((first | refine nx_guard_y rfl (by first | rfl | assumption) ?_ | refine nx_guard rfl rfl (fun hc => ?_) (fun hc => ?_)); all_goals (first | (refine opw_yld (Yld.load rfl) rfl ?_) | skip)))
    all_goals (first | refine nx_guard_n rfl (by first | rfl | assumption) rfl ?_ | refine nx_guard_u rfl rfl ?_ | ((first | refine nx_guard_y rfl (by first | rfl | assumption) ?_ | refine nx_guard rfl rfl (fun hc => ?_) (fun hc => ?_)); all_goals (first | ((refine opw_call rfl (sp130 (hT.mono (by simp +contextual)) _ (b := b) (hb := by intro y hy; simp only [wc, List.mem_singleton] at hy; subst hy; simp; first | exact ⟨rfl, rfl⟩ | exact Or.inl ⟨rfl, rfl⟩ | exact Or.inr (Or.inl ⟨rfl, rfl⟩))) inferInstance rfl ?_; rintro _ _ ⟨rfl, rfl⟩; simp only [List.nil_append])) | skip)))
    all_goals (first | refine nx_guard_n rfl (by first | rfl | assumption) rfl ?_ | refine nx_guard_u rfl rfl ?_ | ((first | refine nx_guard_y rfl (by first | rfl | assumption) ?_ | refine nx_guard rfl rfl (fun hc => ?_) (fun hc => ?_)); all_goals (first | (refine opw_yld (Yld.cmp rfl rfl rfl) rfl ?_) | skip)))
    all_goals (refine nx_op ?_; (first | refine opw_yld (Yld.pick_t rfl (by first | rfl | assumption) rfl) rfl ?_ | refine opw_yld (Yld.pick_f rfl (by first | rfl | assumption) rfl) rfl ?_))
    all_goals (refine nx_op ?_; refine opw_yld (Yld.assign rfl) rfl ?_)
    all_goals refine nx_nil ?_
    all_goals refine kp_code_normal ?_
    all_goals (refine nx_cond rfl (fun hc => ?_) (fun hc => ?_))
    all_goals (first | (exact Bool.noConfusion (hc.symm.trans (by first | rfl | assumption) : true = false)) | (exact Bool.noConfusion (hc.symm.trans (by first | rfl | assumption) : false = true)) | (all_goals refine nx_seq ?_; all_goals refine nx_region ?_; all_goals (refine nx_op ?_; refine opw_yld (Yld.move rfl) rfl ?_); all_goals (refine nx_op ?_; refine opw_yld (Yld.nilCheck rfl) rfl ?_); all_goals (refine nx_op ?_; refine opw_yld (Yld.fieldAddr rfl) rfl ?_); all_goals (refine nx_op ?_; refine opw_yld (Yld.load rfl) rfl ?_); all_goals (refine nx_op ?_; refine opw_yld (Yld.move rfl) rfl ?_); all_goals (refine nx_op ?_; refine opw_yld (Yld.build rfl rfl) rfl ?_); all_goals (refine nx_op ?_; refine opw_storeAgg rfl rfl rfl (by simp [Value.oneCell']) ?_); all_goals (refine nx_op ?_; refine opw_yld (Yld.assign rfl) rfl ?_); all_goals refine nx_nil ?_; all_goals refine kp_code_normal ?_; all_goals refine nx_ret ?_; all_goals refine kp_blk_ret ?_; all_goals refine kp_code_ret ?_; all_goals (exact resC2 (by first | exact .inl rfl | exact .inr rfl) Tryd.results93 rfl rfl [wc b T.t d' l'] inferInstance ⟨d', l', rfl, he', rfl⟩)) | (all_goals refine nx_seq ?_; all_goals refine nx_region ?_; all_goals (refine nx_op ?_; refine opw_yld (Yld.move rfl) rfl ?_); all_goals (refine nx_op ?_; refine opw_yld (Yld.cmp rfl rfl rfl) rfl ?_); all_goals (refine nx_op ?_; refine opw_yld (Yld.assign rfl) rfl ?_); all_goals refine nx_nil ?_; all_goals refine kp_code_normal ?_; all_goals (refine nx_cond rfl (fun hc => ?_) (fun hc => ?_)); all_goals (first | (exact Bool.noConfusion (hc.symm.trans (by first | rfl | assumption) : true = false)) | (exact Bool.noConfusion (hc.symm.trans (by first | rfl | assumption) : false = true)) | (all_goals refine nx_seq ?_; all_goals refine nx_region ?_; all_goals (refine nx_op ?_; refine opw_yld (Yld.build rfl rfl) rfl ?_); all_goals (refine nx_op ?_; refine opw_yld (Yld.move rfl) rfl ?_); all_goals (refine nx_op ?_; refine opw_storeAgg rfl rfl rfl (by simp [Value.oneCell']) ?_); all_goals (refine nx_op ?_; refine opw_yld (Yld.assign rfl) rfl ?_); all_goals refine nx_nil ?_; all_goals refine kp_code_normal ?_; all_goals refine nx_ret ?_; all_goals refine kp_blk_ret ?_; all_goals refine kp_code_ret ?_; all_goals (exact resC2 (by first | exact .inl rfl | exact .inr rfl) Tryd.results93 rfl rfl [wc b T.t d' l'] inferInstance ⟨d', l', rfl, he', rfl⟩)) | (all_goals refine nx_skip ?_))))
    all_goals refine kp_blk_normal ?_
    all_goals refine kp_code_normal ?_
    all_goals refine nx_seq ?_
    all_goals refine nx_region ?_
    all_goals (refine nx_op ?_; refine opw_yld (Yld.move rfl) rfl ?_)
    all_goals (refine nx_op ?_; refine opw_yld (Yld.nilCheck rfl) rfl ?_)
    all_goals (refine nx_op ?_; refine opw_yld (Yld.fieldAddr rfl) rfl ?_)
    all_goals (refine nx_op ?_; refine opw_yld (Yld.load rfl) rfl ?_)
    all_goals (refine nx_op ?_; refine opw_yld (Yld.move rfl) rfl ?_)
    all_goals (refine nx_op ?_; refine opw_yld (Yld.move rfl) rfl ?_)
    all_goals (refine nx_op ?_; refine opw_yld (Yld.build (cs := [.int .i64 dir, .string nm, .int .i64 n]) rfl rfl) rfl ?_)
    all_goals (refine nx_op ?_; refine opw_alc Alc.alloc rfl (fun b12 => ?_))
    all_goals (refine nx_op ?_; refine opw_storeAgg rfl rfl rfl (by simp [Value.oneCell']) ?_)
    all_goals refine nx_nil ?_
    all_goals refine kp_code_normal ?_
    all_goals refine nx_seq ?_
    all_goals refine nx_seq ?_
    all_goals refine nx_region ?_
    all_goals (refine nx_op ?_; refine opw_yld (Yld.move rfl) rfl ?_)
    all_goals (refine nx_op ?_; refine opw_yld (Yld.move rfl) rfl ?_)
    all_goals (refine nx_op ?_; (refine opw_call rfl (sp130 (hT.mono (by simp +contextual)) _ (b := b) (hb := by intro y hy; simp only [wc, List.mem_singleton] at hy; subst hy; simp; first | exact ⟨rfl, rfl⟩ | exact Or.inl ⟨rfl, rfl⟩ | exact Or.inr (Or.inl ⟨rfl, rfl⟩))) inferInstance rfl ?_; rintro _ _ ⟨rfl, rfl⟩; simp only [List.nil_append]))
    all_goals (refine nx_op ?_; refine opw_yld (Yld.cmp rfl rfl rfl) rfl ?_)
    all_goals (refine nx_op ?_; refine opw_yld (Yld.move rfl) rfl ?_)
    all_goals (first | refine nx_guard_n rfl (by first | rfl | assumption) rfl ?_ | refine nx_guard_u rfl rfl ?_ | ((first | refine nx_guard_y rfl (by first | rfl | assumption) ?_ | refine nx_guard rfl rfl (fun hc => ?_) (fun hc => ?_)); all_goals (first | (refine opw_yld (Yld.move rfl) rfl ?_) | skip)))
    all_goals (first | refine nx_guard_n rfl (by first | rfl | assumption) rfl ?_ | refine nx_guard_u rfl rfl ?_ | ((first | refine nx_guard_y rfl (by first | rfl | assumption) ?_ | refine nx_guard rfl rfl (fun hc => ?_) (fun hc => ?_)); all_goals (first | (refine opw_yld (Yld.move rfl) rfl ?_) | skip)))
    all_goals (first | refine nx_guard_n rfl (by first | rfl | assumption) rfl ?_ | refine nx_guard_u rfl rfl ?_ | ((first | refine nx_guard_y rfl (by first | rfl | assumption) ?_ | refine nx_guard rfl rfl (fun hc => ?_) (fun hc => ?_)); all_goals (first | (refine opw_yld (Yld.move rfl) rfl ?_) | skip)))
    all_goals (first | refine nx_guard_n rfl (by first | rfl | assumption) rfl ?_ | refine nx_guard_u rfl rfl ?_ | ((first | refine nx_guard_y rfl (by first | rfl | assumption) ?_ | refine nx_guard rfl rfl (fun hc => ?_) (fun hc => ?_)); all_goals (first | ((first | refine opw_yld (Yld.pick_t rfl (by first | rfl | assumption) rfl) rfl ?_ | refine opw_yld (Yld.pick_f rfl (by first | rfl | assumption) rfl) rfl ?_)) | skip)))
    all_goals (refine nx_op ?_; (first | refine opw_yld (Yld.pick_t rfl (by first | rfl | assumption) rfl) rfl ?_ | refine opw_yld (Yld.pick_f rfl (by first | rfl | assumption) rfl) rfl ?_))
    all_goals refine nx_nil ?_
    all_goals refine kp_code_normal ?_
    all_goals (refine nx_cond rfl (fun hc => ?_) (fun hc => ?_))
    all_goals (first | (exact Bool.noConfusion (hc.symm.trans (by first | rfl | assumption) : true = false)) | (exact Bool.noConfusion (hc.symm.trans (by first | rfl | assumption) : false = true)) | (all_goals refine nx_seq ?_; all_goals refine nx_seq ?_; all_goals refine nx_region ?_; all_goals (refine nx_op ?_; refine opw_yld (Yld.move rfl) rfl ?_); all_goals (refine nx_op ?_; refine opw_yld (Yld.move rfl) rfl ?_); all_goals (refine nx_op ?_; (refine opw_call rfl (h131 _ (hT.mono (by simp +contextual))) inferInstance rfl ?_; rintro v B ⟨d', l', rfl, h1, rfl⟩; simp only [List.cons_append, List.nil_append, wc, foZ])); all_goals (refine nx_op ?_; refine opw_yld (Yld.move rfl) rfl ?_); all_goals (refine nx_op ?_; refine opw_yld (Yld.extract rfl rfl) rfl ?_); all_goals (refine nx_op ?_; refine opw_yld (Yld.extract rfl rfl) rfl ?_); all_goals (refine nx_op ?_; refine opw_storeAgg rfl rfl rfl (by simp [Value.oneCell']) ?_); all_goals (refine nx_op ?_; refine opw_yld (Yld.assign rfl) rfl ?_); all_goals refine nx_nil ?_; all_goals refine kp_code_normal ?_; all_goals refine nx_seq ?_; all_goals refine nx_region ?_; all_goals (refine nx_op ?_; refine opw_yld (Yld.move rfl) rfl ?_); all_goals (refine nx_op ?_; refine opw_yld (Yld.cmp rfl rfl rfl) rfl ?_); all_goals refine nx_nil ?_; all_goals refine kp_code_normal ?_; all_goals (refine nx_cond rfl (fun hc => ?_) (fun hc => ?_)); all_goals (first | (exact Bool.noConfusion (hc.symm.trans (by first | rfl | assumption) : true = false)) | (exact Bool.noConfusion (hc.symm.trans (by first | rfl | assumption) : false = true)) | (all_goals refine nx_seq ?_; all_goals refine nx_region ?_; all_goals (refine nx_op ?_; refine opw_yld (Yld.build (cs := [.int .i64 0, .string ⟨#[]⟩, .int .i64 0]) rfl rfl) rfl ?_); all_goals (refine nx_op ?_; refine opw_yld (Yld.move rfl) rfl ?_); all_goals (refine nx_op ?_; refine opw_storeAgg rfl rfl rfl (by simp [Value.oneCell']) ?_); all_goals (refine nx_op ?_; refine opw_yld (Yld.assign rfl) rfl ?_); all_goals refine nx_nil ?_; all_goals refine kp_code_normal ?_; all_goals refine nx_ret ?_; all_goals refine kp_code_ret ?_; all_goals refine kp_code_ret ?_; all_goals (exact resC2 (by first | exact .inl rfl | exact .inr rfl) Tryd.results93 rfl rfl [wc b T.t d' l'] inferInstance ⟨d', l', rfl, he', rfl⟩)) | (all_goals refine nx_skip ?_)); all_goals refine kp_code_normal ?_; all_goals refine nx_seq ?_; all_goals refine nx_region ?_; all_goals (refine nx_op ?_; refine opw_yld (Yld.fieldAddr rfl) rfl ?_); all_goals (refine nx_op ?_; refine opw_yld (Yld.load rfl) rfl ?_); all_goals (refine nx_op ?_; refine opw_yld (Yld.cmp rfl rfl rfl) rfl ?_); all_goals (refine nx_op ?_; refine opw_yld (Yld.move rfl) rfl ?_); all_goals (first | refine nx_guard_n rfl (by first | rfl | assumption) rfl ?_ | refine nx_guard_u rfl rfl ?_ | ((first | refine nx_guard_y rfl (by first | rfl | assumption) ?_ | refine nx_guard rfl rfl (fun hc => ?_) (fun hc => ?_)); all_goals (first | (refine opw_yld (Yld.move rfl) rfl ?_) | skip))); all_goals (refine nx_op ?_; (first | refine opw_yld (Yld.pick_t rfl (by first | rfl | assumption) rfl) rfl ?_ | refine opw_yld (Yld.pick_f rfl (by first | rfl | assumption) rfl) rfl ?_)); all_goals refine nx_nil ?_; all_goals refine kp_code_normal ?_; all_goals (refine nx_cond rfl (fun hc => ?_) (fun hc => ?_)); all_goals (first | (exact Bool.noConfusion (hc.symm.trans (by first | rfl | assumption) : true = false)) | (exact Bool.noConfusion (hc.symm.trans (by first | rfl | assumption) : false = true)) | (all_goals refine nx_seq ?_; all_goals refine nx_region ?_; all_goals (refine nx_op ?_; refine opw_yld (Yld.build rfl rfl) rfl ?_); all_goals (refine nx_op ?_; refine opw_storeAgg rfl rfl rfl (by simp [Value.oneCell']) ?_); all_goals (refine nx_op ?_; refine opw_yld (Yld.assign rfl) rfl ?_); all_goals refine nx_nil ?_; all_goals refine kp_code_normal ?_; all_goals refine nx_ret ?_; all_goals refine kp_code_ret ?_; all_goals (exact resC2 (by first | exact .inl rfl | exact .inr rfl) Tryd.results93 rfl rfl [wc b T.t d' l'] inferInstance ⟨d', l', rfl, he', rfl⟩)) | (all_goals refine nx_skip ?_))) | (all_goals refine nx_skip ?_))
    all_goals refine kp_code_normal ?_
    all_goals refine nx_seq ?_
    all_goals refine nx_seq ?_
    all_goals refine nx_region ?_
    all_goals (refine nx_op ?_; refine opw_yld (Yld.move rfl) rfl ?_)
    all_goals (refine nx_op ?_; refine opw_yld (Yld.move rfl) rfl ?_)
    all_goals (first | refine nx_guard_n rfl (by first | rfl | assumption) rfl ?_ | refine nx_guard_u rfl rfl ?_ | ((first | refine nx_guard_y rfl (by first | rfl | assumption) ?_ | refine nx_guard rfl rfl (fun hc => ?_) (fun hc => ?_)); all_goals (first | (refine opw_yld (Yld.move rfl) rfl ?_) | skip)))
    all_goals (first | refine nx_guard_n rfl (by first | rfl | assumption) rfl ?_ | refine nx_guard_u rfl rfl ?_ | ((first | refine nx_guard_y rfl (by first | rfl | assumption) ?_ | refine nx_guard rfl rfl (fun hc => ?_) (fun hc => ?_)); all_goals (first | (refine opw_yld (Yld.fieldAddr rfl) rfl ?_) | skip)))
    all_goals (first | refine nx_guard_n rfl (by first | rfl | assumption) rfl ?_ | refine nx_guard_u rfl rfl ?_ | ((first | refine nx_guard_y rfl (by first | rfl | assumption) ?_ | refine nx_guard rfl rfl (fun hc => ?_) (fun hc => ?_)); all_goals (first | (refine opw_yld (Yld.load rfl) rfl ?_) | skip)))
    all_goals (first | refine nx_guard_n rfl (by first | rfl | assumption) rfl ?_ | refine nx_guard_u rfl rfl ?_ | ((first | refine nx_guard_y rfl (by first | rfl | assumption) ?_ | refine nx_guard rfl rfl (fun hc => ?_) (fun hc => ?_)); all_goals (first | ((refine opw_call rfl (sp130 (hT.mono (by simp +contextual)) _ (b := b) (hb := by intro y hy; simp only [wc, List.mem_singleton] at hy; subst hy; simp; first | exact ⟨rfl, rfl⟩ | exact Or.inl ⟨rfl, rfl⟩ | exact Or.inr (Or.inl ⟨rfl, rfl⟩))) inferInstance rfl ?_; rintro _ _ ⟨rfl, rfl⟩; simp only [List.nil_append])) | skip)))
    all_goals (first | refine nx_guard_n rfl (by first | rfl | assumption) rfl ?_ | refine nx_guard_u rfl rfl ?_ | ((first | refine nx_guard_y rfl (by first | rfl | assumption) ?_ | refine nx_guard rfl rfl (fun hc => ?_) (fun hc => ?_)); all_goals (first | (refine opw_yld (Yld.cmp rfl rfl rfl) rfl ?_) | skip)))
    all_goals (refine nx_op ?_; (first | refine opw_yld (Yld.pick_t rfl (by first | rfl | assumption) rfl) rfl ?_ | refine opw_yld (Yld.pick_f rfl (by first | rfl | assumption) rfl) rfl ?_))
    all_goals refine nx_nil ?_
    all_goals refine kp_code_normal ?_
    all_goals (refine nx_cond rfl (fun hc => ?_) (fun hc => ?_))
    all_goals (first | (exact Bool.noConfusion (hc.symm.trans (by first | rfl | assumption) : true = false)) | (exact Bool.noConfusion (hc.symm.trans (by first | rfl | assumption) : false = true)) | (all_goals refine nx_seq ?_; all_goals refine nx_region ?_; all_goals (refine nx_op ?_; refine opw_yld (Yld.build rfl rfl) rfl ?_); all_goals (refine nx_op ?_; refine opw_storeAgg rfl rfl rfl (by simp [Value.oneCell']) ?_); all_goals (refine nx_op ?_; refine opw_yld (Yld.assign rfl) rfl ?_); all_goals refine nx_nil ?_; all_goals refine kp_code_normal ?_; all_goals refine nx_ret ?_; all_goals refine kp_code_ret ?_; all_goals (exact resC2 (by first | exact .inl rfl | exact .inr rfl) Tryd.results93 rfl rfl [wc b T.t d' l'] inferInstance ⟨d', l', rfl, he', rfl⟩)) | (all_goals refine nx_skip ?_))
    all_goals refine kp_code_normal ?_
    all_goals refine nx_seq ?_
    all_goals refine nx_region ?_
    all_goals (refine nx_op ?_; refine opw_yld (Yld.loadAgg rfl) rfl ?_)
    all_goals (refine nx_op ?_; refine opw_storeAgg rfl rfl rfl (by simp [Value.oneCell']) ?_)
    all_goals (refine nx_op ?_; refine opw_yld (Yld.assign rfl) rfl ?_)
    all_goals refine nx_nil ?_
    all_goals refine kp_code_normal ?_
    all_goals refine nx_ret ?_
    all_goals (exact resC2 (by first | exact .inl rfl | exact .inr rfl) Tryd.results93 rfl rfl [wc b T.t d' l'] inferInstance ⟨d', l', rfl, he', rfl⟩)
  cases isDir with
  | false =>
    have hfo : fol = true := by simpa using hfd2
    subst hfo
    have hr : lastB (abs T.S) false (f1, f2, f3) k = .ok ((f1, f2, f3), k) := by unfold lastB; rw [if_neg (by simp), if_neg (by simp)]
    dsimp only
    rw [hr]
    all_goals refine nx_seq ?_
    all_goals refine nx_region ?_
    all_goals (refine nx_op ?_; refine opw_alc Alc.alloc rfl (fun b8 => ?_))
    all_goals (refine nx_op ?_; refine opw_yld (Yld.assign rfl) rfl ?_)
    all_goals refine nx_nil ?_
    all_goals refine kp_code_normal ?_
    all_goals refine nx_seq ?_
    all_goals refine nx_draw (fun i => match i with | 3 => .read | 7 => .read | 9 => .hard | _ => .stab) [] [0, 1, 2, 3, 4, 5, 6, 7, 8, 9, 10, 11, 12, 13, 14] rfl (by kernel_rfl) inferInstance ?_
    all_goals (refine wk_stab rfl rfl (Yld.move rfl) rfl ?_)
    all_goals (refine wk_stab rfl rfl (Yld.nilCheck rfl) rfl ?_)
    all_goals (refine wk_stab rfl rfl (Yld.fieldAddr rfl) rfl ?_)
    all_goals (refine wk_read rfl rfl (Yld.load rfl) rfl ?_)
    all_goals (refine wk_stab rfl rfl (Yld.move rfl) rfl ?_)
    all_goals (refine wk_stab rfl rfl (Yld.nilCheck rfl) rfl ?_)
    all_goals (refine wk_stab rfl rfl (Yld.fieldAddr rfl) rfl ?_)
    all_goals (refine wk_read rfl rfl (Yld.load rfl) rfl ?_)
    all_goals (refine wk_stab rfl rfl (Yld.move rfl) rfl ?_)
    all_goals ((refine wk_hard rfl rfl ?_; (refine opw_call rfl (sp61 (hT.mono (by simp +contextual)) dir nm) inferInstance rfl ?_; rintro _ _ ⟨rfl, rfl⟩; simp only [List.nil_append, findR_abs, hfd, pairV]); refine nx_keeps inferInstance ?_))
    all_goals (refine wk_stab rfl rfl (Yld.move rfl) rfl ?_)
    all_goals (refine wk_stab rfl rfl (Yld.extract rfl rfl) rfl ?_)
    all_goals (refine wk_stab rfl rfl (Yld.extract rfl rfl) rfl ?_)
    all_goals (refine wk_stab rfl rfl (Yld.assign rfl) rfl ?_)
    all_goals (refine wk_stab rfl rfl (Yld.assign rfl) rfl ?_)
    all_goals refine wk_nil ?_
    all_goals refine kp_code_normal ?_
    all_goals refine nx_seq ?_
    all_goals refine nx_block ?_
    all_goals refine nx_seq ?_
    all_goals refine nx_region ?_
    all_goals (refine nx_op ?_; refine opw_yld (Yld.move rfl) rfl ?_)
    all_goals (refine nx_op ?_; refine opw_yld (Yld.cmp rfl rfl rfl) rfl ?_)
    all_goals (refine nx_op ?_; refine opw_yld (Yld.move rfl) rfl ?_)
    all_goals (first | refine nx_guard_n rfl (by first | rfl | assumption) rfl ?_ | refine nx_guard_u rfl rfl ?_ | ((first | refine nx_guard_y rfl (by first | rfl | assumption) ?_ | refine nx_guard rfl rfl (fun hc => ?_) (fun hc => ?_)); all_goals (first | (refine opw_yld (Yld.move rfl) rfl ?_) | skip)))
    all_goals (first | refine nx_guard_n rfl (by first | rfl | assumption) rfl ?_ | refine nx_guard_u rfl rfl ?_ | ((first | refine nx_guard_y rfl (by first | rfl | assumption) ?_ | refine nx_guard rfl rfl (fun hc => ?_) (fun hc => ?_)); all_goals (first | (refine opw_yld (Yld.not rfl) rfl ?_) | skip)))
    all_goals (refine nx_op ?_; (first | refine opw_yld (Yld.pick_t rfl (by first | rfl | assumption) rfl) rfl ?_ | refine opw_yld (Yld.pick_f rfl (by first | rfl | assumption) rfl) rfl ?_))
    all_goals (refine nx_op ?_; refine opw_yld (Yld.move rfl) rfl ?_)
    all_goals (first | refine nx_guard_n rfl (by first | rfl | assumption) rfl ?_ | refine nx_guard_u rfl rfl ?_ | ((first | refine nx_guard_y rfl (by first | rfl | assumption) ?_ | refine nx_guard rfl rfl (fun hc => ?_) (fun hc => ?_)); all_goals (first | (refine opw_yld (Yld.move rfl) rfl ?_) | skip)))
    all_goals (first | refine nx_guard_n rfl (by first | rfl | assumption) rfl ?_ | refine nx_guard_u rfl rfl ?_ | ((first | refine nx_guard_y rfl (by first | rfl | assumption) ?_ | refine nx_guard rfl rfl (fun hc => ?_) (fun hc => ?_)); all_goals (first | (refine opw_yld (Yld.move rfl) rfl ?_) | skip)))
    all_goals (first | refine nx_guard_n rfl (by first | rfl | assumption) rfl ?_ | refine nx_guard_u rfl rfl ?_ | ((first | refine nx_guard_y rfl (by first | rfl | assumption) ?_ | refine nx_guard rfl rfl (fun hc => ?_) (fun hc => ?_)); all_goals (first | (refine opw_yld (Yld.nilCheck rfl) rfl ?_) | skip)))
    all_goals (first | refine nx_guard_n rfl (by first | rfl | assumption) rfl ?_ | refine nx_guard_u rfl rfl ?_ | ((first | refine nx_guard_y rfl (by first | rfl | assumption) ?_ | refine nx_guard rfl rfl (fun hc => ?_) (fun hc => ?_)); all_goals (first | (refine opw_yld (Yld.fieldAddr rfl) rfl ?_) | skip)))
    all_goals (first | refine nx_guard_n rfl (by first | rfl | assumption) rfl ?_ | refine nx_guard_u rfl rfl ?_ | ((first | refine nx_guard_y rfl (by first | rfl | assumption) ?_ | refine nx_guard rfl rfl (fun hc => ?_) (fun hc => ?_)); all_goals (first | (refine opw_yld (Yld.load rfl) rfl ?_) | skip)))
    all_goals (first | refine nx_guard_n rfl (by first | rfl | assumption) rfl ?_ | refine nx_guard_u rfl rfl ?_ | ((first | refine nx_guard_y rfl (by first | rfl | assumption) ?_ | refine nx_guard rfl rfl (fun hc => ?_) (fun hc => ?_)); all_goals (first | ((refine opw_call rfl (sp130 (hT.mono (by simp +contextual)) _ (b := b) (hb := by intro y hy; simp only [wc, List.mem_singleton] at hy; subst hy; simp; first | exact ⟨rfl, rfl⟩ | exact Or.inl ⟨rfl, rfl⟩ | exact Or.inr (Or.inl ⟨rfl, rfl⟩))) inferInstance rfl ?_; rintro _ _ ⟨rfl, rfl⟩; simp only [List.nil_append])) | skip)))
    all_goals (first | refine nx_guard_n rfl (by first | rfl | assumption) rfl ?_ | refine nx_guard_u rfl rfl ?_ | ((first | refine nx_guard_y rfl (by first | rfl | assumption) ?_ | refine nx_guard rfl rfl (fun hc => ?_) (fun hc => ?_)); all_goals (first | (refine opw_yld (Yld.cmp rfl rfl rfl) rfl ?_) | skip)))
    all_goals (refine nx_op ?_; (first | refine opw_yld (Yld.pick_t rfl (by first | rfl | assumption) rfl) rfl ?_ | refine opw_yld (Yld.pick_f rfl (by first | rfl | assumption) rfl) rfl ?_))
    all_goals (refine nx_op ?_; refine opw_yld (Yld.assign rfl) rfl ?_)
    all_goals refine nx_nil ?_
    all_goals refine kp_code_normal ?_
    all_goals (refine nx_cond rfl (fun hc => ?_) (fun hc => ?_))
    all_goals (first | (exact Bool.noConfusion (hc.symm.trans (by first | rfl | assumption) : true = false)) | (exact Bool.noConfusion (hc.symm.trans (by first | rfl | assumption) : false = true)) | (all_goals refine nx_seq ?_; all_goals refine nx_region ?_; all_goals (refine nx_op ?_; refine opw_yld (Yld.move rfl) rfl ?_); all_goals (refine nx_op ?_; refine opw_yld (Yld.nilCheck rfl) rfl ?_); all_goals (refine nx_op ?_; refine opw_yld (Yld.fieldAddr rfl) rfl ?_); all_goals (refine nx_op ?_; refine opw_yld (Yld.load rfl) rfl ?_); all_goals (refine nx_op ?_; refine opw_yld (Yld.move rfl) rfl ?_); all_goals (refine nx_op ?_; refine opw_yld (Yld.build rfl rfl) rfl ?_); all_goals (refine nx_op ?_; refine opw_storeAgg rfl rfl rfl (by simp [Value.oneCell']) ?_); all_goals (refine nx_op ?_; refine opw_yld (Yld.assign rfl) rfl ?_); all_goals refine nx_nil ?_; all_goals refine kp_code_normal ?_; all_goals refine nx_ret ?_; all_goals refine kp_blk_ret ?_; all_goals refine kp_code_ret ?_; all_goals (exact resC2 (by first | exact .inl rfl | exact .inr rfl) Tryd.results93 rfl rfl [wc b T.t d' l'] inferInstance ⟨d', l', rfl, rfl, h1, h2⟩)) | (all_goals refine nx_seq ?_; all_goals refine nx_region ?_; all_goals (refine nx_op ?_; refine opw_yld (Yld.move rfl) rfl ?_); all_goals (refine nx_op ?_; refine opw_yld (Yld.cmp rfl rfl rfl) rfl ?_); all_goals (refine nx_op ?_; refine opw_yld (Yld.assign rfl) rfl ?_); all_goals refine nx_nil ?_; all_goals refine kp_code_normal ?_; all_goals (refine nx_cond rfl (fun hc => ?_) (fun hc => ?_)); all_goals (first | (exact Bool.noConfusion (hc.symm.trans (by first | rfl | assumption) : true = false)) | (exact Bool.noConfusion (hc.symm.trans (by first | rfl | assumption) : false = true)) | (all_goals refine nx_seq ?_; all_goals refine nx_region ?_; all_goals (refine nx_op ?_; refine opw_yld (Yld.build rfl rfl) rfl ?_); all_goals (refine nx_op ?_; refine opw_yld (Yld.move rfl) rfl ?_); all_goals (refine nx_op ?_; refine opw_storeAgg rfl rfl rfl (by simp [Value.oneCell']) ?_); all_goals (refine nx_op ?_; refine opw_yld (Yld.assign rfl) rfl ?_); all_goals refine nx_nil ?_; all_goals refine kp_code_normal ?_; all_goals refine nx_ret ?_; all_goals refine kp_blk_ret ?_; all_goals refine kp_code_ret ?_; all_goals (exact resC2 (by first | exact .inl rfl | exact .inr rfl) Tryd.results93 rfl rfl [wc b T.t d' l'] inferInstance ⟨d', l', rfl, rfl, h1, h2⟩)) | (all_goals refine nx_skip ?_))))
    all_goals refine kp_blk_normal ?_
    all_goals refine kp_code_normal ?_
    all_goals refine nx_seq ?_
    all_goals refine nx_region ?_
    all_goals (refine nx_op ?_; refine opw_yld (Yld.move rfl) rfl ?_)
    all_goals (refine nx_op ?_; refine opw_yld (Yld.nilCheck rfl) rfl ?_)
    all_goals (refine nx_op ?_; refine opw_yld (Yld.fieldAddr rfl) rfl ?_)
    all_goals (refine nx_op ?_; refine opw_yld (Yld.load rfl) rfl ?_)
    all_goals (refine nx_op ?_; refine opw_yld (Yld.move rfl) rfl ?_)
    all_goals (refine nx_op ?_; refine opw_yld (Yld.move rfl) rfl ?_)
    all_goals (refine nx_op ?_; refine opw_yld (Yld.build (cs := [.int .i64 dir, .string nm, .int .i64 n]) rfl rfl) rfl ?_)
    all_goals (refine nx_op ?_; refine opw_alc Alc.alloc rfl (fun b12 => ?_))
    all_goals (refine nx_op ?_; refine opw_storeAgg rfl rfl rfl (by simp [Value.oneCell']) ?_)
    all_goals refine nx_nil ?_
    all_goals refine kp_code_normal ?_
    all_goals refine nx_seq ?_
    all_goals refine nx_seq ?_
    all_goals refine nx_region ?_
    all_goals (refine nx_op ?_; refine opw_yld (Yld.move rfl) rfl ?_)
    all_goals (refine nx_op ?_; refine opw_yld (Yld.move rfl) rfl ?_)
    all_goals (refine nx_op ?_; (refine opw_call rfl (sp130 (hT.mono (by simp +contextual)) _ (b := b) (hb := by intro y hy; simp only [wc, List.mem_singleton] at hy; subst hy; simp; first | exact ⟨rfl, rfl⟩ | exact Or.inl ⟨rfl, rfl⟩ | exact Or.inr (Or.inl ⟨rfl, rfl⟩))) inferInstance rfl ?_; rintro _ _ ⟨rfl, rfl⟩; simp only [List.nil_append]))
    all_goals (refine nx_op ?_; refine opw_yld (Yld.cmp rfl rfl rfl) rfl ?_)
    all_goals (refine nx_op ?_; refine opw_yld (Yld.move rfl) rfl ?_)
    all_goals (first | refine nx_guard_n rfl (by first | rfl | assumption) rfl ?_ | refine nx_guard_u rfl rfl ?_ | ((first | refine nx_guard_y rfl (by first | rfl | assumption) ?_ | refine nx_guard rfl rfl (fun hc => ?_) (fun hc => ?_)); all_goals (first | (refine opw_yld (Yld.move rfl) rfl ?_) | skip)))
    all_goals (first | refine nx_guard_n rfl (by first | rfl | assumption) rfl ?_ | refine nx_guard_u rfl rfl ?_ | ((first | refine nx_guard_y rfl (by first | rfl | assumption) ?_ | refine nx_guard rfl rfl (fun hc => ?_) (fun hc => ?_)); all_goals (first | (refine opw_yld (Yld.move rfl) rfl ?_) | skip)))
    all_goals (first | refine nx_guard_n rfl (by first | rfl | assumption) rfl ?_ | refine nx_guard_u rfl rfl ?_ | ((first | refine nx_guard_y rfl (by first | rfl | assumption) ?_ | refine nx_guard rfl rfl (fun hc => ?_) (fun hc => ?_)); all_goals (first | (refine opw_yld (Yld.move rfl) rfl ?_) | skip)))
    all_goals (first | refine nx_guard_n rfl (by first | rfl | assumption) rfl ?_ | refine nx_guard_u rfl rfl ?_ | ((first | refine nx_guard_y rfl (by first | rfl | assumption) ?_ | refine nx_guard rfl rfl (fun hc => ?_) (fun hc => ?_)); all_goals (first | ((first | refine opw_yld (Yld.pick_t rfl (by first | rfl | assumption) rfl) rfl ?_ | refine opw_yld (Yld.pick_f rfl (by first | rfl | assumption) rfl) rfl ?_)) | skip)))
    all_goals (refine nx_op ?_; (first | refine opw_yld (Yld.pick_t rfl (by first | rfl | assumption) rfl) rfl ?_ | refine opw_yld (Yld.pick_f rfl (by first | rfl | assumption) rfl) rfl ?_))
    all_goals refine nx_nil ?_
    all_goals refine kp_code_normal ?_
    all_goals (refine nx_cond rfl (fun hc => ?_) (fun hc => ?_))
    all_goals (first | (exact Bool.noConfusion (hc.symm.trans (by first | rfl | assumption) : true = false)) | (exact Bool.noConfusion (hc.symm.trans (by first | rfl | assumption) : false = true)) | (all_goals refine nx_seq ?_; all_goals refine nx_seq ?_; all_goals refine nx_region ?_; all_goals (refine nx_op ?_; refine opw_yld (Yld.move rfl) rfl ?_); all_goals (refine nx_op ?_; refine opw_yld (Yld.move rfl) rfl ?_); all_goals (refine nx_op ?_; (refine opw_call rfl (h131 _ (hT.mono (by simp +contextual))) inferInstance rfl ?_; rintro v B ⟨d', l', rfl, rfl, h1, h2⟩; simp only [List.cons_append, List.nil_append, wc, foV])); all_goals (refine nx_op ?_; refine opw_yld (Yld.move rfl) rfl ?_); all_goals (refine nx_op ?_; refine opw_yld (Yld.extract rfl rfl) rfl ?_); all_goals (refine nx_op ?_; refine opw_yld (Yld.extract rfl rfl) rfl ?_); all_goals (refine nx_op ?_; refine opw_storeAgg rfl rfl rfl (by simp [Value.oneCell']) ?_); all_goals (refine nx_op ?_; refine opw_yld (Yld.assign rfl) rfl ?_); all_goals refine nx_nil ?_; all_goals refine kp_code_normal ?_; all_goals refine nx_seq ?_; all_goals refine nx_region ?_; all_goals (refine nx_op ?_; refine opw_yld (Yld.move rfl) rfl ?_); all_goals (refine nx_op ?_; refine opw_yld (Yld.cmp rfl rfl rfl) rfl ?_); all_goals refine nx_nil ?_; all_goals refine kp_code_normal ?_; all_goals (refine nx_cond rfl (fun hc => ?_) (fun hc => ?_)); all_goals (first | (exact Bool.noConfusion (hc.symm.trans (by first | rfl | assumption) : true = false)) | (exact Bool.noConfusion (hc.symm.trans (by first | rfl | assumption) : false = true)) | (all_goals refine nx_seq ?_; all_goals refine nx_region ?_; all_goals (refine nx_op ?_; refine opw_yld (Yld.build rfl rfl) rfl ?_); all_goals (refine nx_op ?_; refine opw_yld (Yld.move rfl) rfl ?_); all_goals (refine nx_op ?_; refine opw_storeAgg rfl rfl rfl (by simp [Value.oneCell']) ?_); all_goals (refine nx_op ?_; refine opw_yld (Yld.assign rfl) rfl ?_); all_goals refine nx_nil ?_; all_goals refine kp_code_normal ?_; all_goals refine nx_ret ?_; all_goals refine kp_code_ret ?_; all_goals refine kp_code_ret ?_; all_goals (exact resC2 (by first | exact .inl rfl | exact .inr rfl) Tryd.results93 rfl rfl [wc b T.t d' l'] inferInstance ⟨d', l', rfl, rfl, h1, h2⟩)) | (all_goals refine nx_skip ?_)); all_goals refine kp_code_normal ?_; all_goals refine nx_seq ?_; all_goals refine nx_region ?_; all_goals (refine nx_op ?_; refine opw_yld (Yld.fieldAddr rfl) rfl ?_); all_goals (refine nx_op ?_; refine opw_yld (Yld.load rfl) rfl ?_); all_goals (refine nx_op ?_; refine opw_yld (Yld.cmp rfl rfl rfl) rfl ?_); all_goals (refine nx_op ?_; refine opw_yld (Yld.move rfl) rfl ?_); all_goals (first | refine nx_guard_n rfl (by first | rfl | assumption) rfl ?_ | refine nx_guard_u rfl rfl ?_ | ((first | refine nx_guard_y rfl (by first | rfl | assumption) ?_ | refine nx_guard rfl rfl (fun hc => ?_) (fun hc => ?_)); all_goals (first | (refine opw_yld (Yld.move rfl) rfl ?_) | skip))); all_goals (refine nx_op ?_; (first | refine opw_yld (Yld.pick_t rfl (by first | rfl | assumption) rfl) rfl ?_ | refine opw_yld (Yld.pick_f rfl (by first | rfl | assumption) rfl) rfl ?_)); all_goals refine nx_nil ?_; all_goals refine kp_code_normal ?_; all_goals (refine nx_cond rfl (fun hc => ?_) (fun hc => ?_)); all_goals (first | (exact Bool.noConfusion (hc.symm.trans (by first | rfl | assumption) : true = false)) | (exact Bool.noConfusion (hc.symm.trans (by first | rfl | assumption) : false = true)) | (all_goals refine nx_seq ?_; all_goals refine nx_region ?_; all_goals (refine nx_op ?_; refine opw_yld (Yld.build rfl rfl) rfl ?_); all_goals (refine nx_op ?_; refine opw_storeAgg rfl rfl rfl (by simp [Value.oneCell']) ?_); all_goals (refine nx_op ?_; refine opw_yld (Yld.assign rfl) rfl ?_); all_goals refine nx_nil ?_; all_goals refine kp_code_normal ?_; all_goals refine nx_ret ?_; all_goals refine kp_code_ret ?_; all_goals (exact resC2 (by first | exact .inl rfl | exact .inr rfl) Tryd.results93 rfl rfl [wc b T.t d' l'] inferInstance ⟨d', l', rfl, rfl, h1, h2⟩)) | (all_goals refine nx_skip ?_))) | (all_goals refine nx_skip ?_))
    all_goals refine kp_code_normal ?_
    all_goals refine nx_seq ?_
    all_goals refine nx_seq ?_
    all_goals refine nx_region ?_
    all_goals (refine nx_op ?_; refine opw_yld (Yld.move rfl) rfl ?_)
    all_goals (refine nx_op ?_; refine opw_yld (Yld.move rfl) rfl ?_)
    all_goals (first | refine nx_guard_n rfl (by first | rfl | assumption) rfl ?_ | refine nx_guard_u rfl rfl ?_ | ((first | refine nx_guard_y rfl (by first | rfl | assumption) ?_ | refine nx_guard rfl rfl (fun hc => ?_) (fun hc => ?_)); all_goals (first | (refine opw_yld (Yld.move rfl) rfl ?_) | skip)))
    all_goals (first | refine nx_guard_n rfl (by first | rfl | assumption) rfl ?_ | refine nx_guard_u rfl rfl ?_ | ((first | refine nx_guard_y rfl (by first | rfl | assumption) ?_ | refine nx_guard rfl rfl (fun hc => ?_) (fun hc => ?_)); all_goals (first | (refine opw_yld (Yld.fieldAddr rfl) rfl ?_) | skip)))
    all_goals (first | refine nx_guard_n rfl (by first | rfl | assumption) rfl ?_ | refine nx_guard_u rfl rfl ?_ | ((first | refine nx_guard_y rfl (by first | rfl | assumption) ?_ | refine nx_guard rfl rfl (fun hc => ?_) (fun hc => ?_)); all_goals (first | (refine opw_yld (Yld.load rfl) rfl ?_) | skip)))
    all_goals (first | refine nx_guard_n rfl (by first | rfl | assumption) rfl ?_ | refine nx_guard_u rfl rfl ?_ | ((first | refine nx_guard_y rfl (by first | rfl | assumption) ?_ | refine nx_guard rfl rfl (fun hc => ?_) (fun hc => ?_)); all_goals (first | ((refine opw_call rfl (sp130 (hT.mono (by simp +contextual)) _ (b := b) (hb := by intro y hy; simp only [wc, List.mem_singleton] at hy; subst hy; simp; first | exact ⟨rfl, rfl⟩ | exact Or.inl ⟨rfl, rfl⟩ | exact Or.inr (Or.inl ⟨rfl, rfl⟩))) inferInstance rfl ?_; rintro _ _ ⟨rfl, rfl⟩; simp only [List.nil_append])) | skip)))
    all_goals (first | refine nx_guard_n rfl (by first | rfl | assumption) rfl ?_ | refine nx_guard_u rfl rfl ?_ | ((first | refine nx_guard_y rfl (by first | rfl | assumption) ?_ | refine nx_guard rfl rfl (fun hc => ?_) (fun hc => ?_)); all_goals (first | (refine opw_yld (Yld.cmp rfl rfl rfl) rfl ?_) | skip)))
    all_goals (refine nx_op ?_; (first | refine opw_yld (Yld.pick_t rfl (by first | rfl | assumption) rfl) rfl ?_ | refine opw_yld (Yld.pick_f rfl (by first | rfl | assumption) rfl) rfl ?_))
    all_goals refine nx_nil ?_
    all_goals refine kp_code_normal ?_
    all_goals (refine nx_cond rfl (fun hc => ?_) (fun hc => ?_))
    all_goals (first | (exact Bool.noConfusion (hc.symm.trans (by first | rfl | assumption) : true = false)) | (exact Bool.noConfusion (hc.symm.trans (by first | rfl | assumption) : false = true)) | (all_goals refine nx_seq ?_; all_goals refine nx_region ?_; all_goals (refine nx_op ?_; refine opw_yld (Yld.build rfl rfl) rfl ?_); all_goals (refine nx_op ?_; refine opw_storeAgg rfl rfl rfl (by simp [Value.oneCell']) ?_); all_goals (refine nx_op ?_; refine opw_yld (Yld.assign rfl) rfl ?_); all_goals refine nx_nil ?_; all_goals refine kp_code_normal ?_; all_goals refine nx_ret ?_; all_goals refine kp_code_ret ?_; all_goals (exact resC2 (by first | exact .inl rfl | exact .inr rfl) Tryd.results93 rfl rfl [wc b T.t d' l'] inferInstance ⟨d', l', rfl, rfl, h1, h2⟩)) | (all_goals refine nx_skip ?_))
    all_goals refine kp_code_normal ?_
    all_goals refine nx_seq ?_
    all_goals refine nx_region ?_
    all_goals (refine nx_op ?_; refine opw_yld (Yld.loadAgg rfl) rfl ?_)
    all_goals (refine nx_op ?_; refine opw_storeAgg rfl rfl rfl (by simp [Value.oneCell']) ?_)
    all_goals (refine nx_op ?_; refine opw_yld (Yld.assign rfl) rfl ?_)
    all_goals refine nx_nil ?_
    all_goals refine kp_code_normal ?_
    all_goals refine nx_ret ?_
    all_goals (exact resC2 (by first | exact .inl rfl | exact .inr rfl) Tryd.results93 rfl rfl [wc b T.t d' l'] inferInstance ⟨d', l', rfl, rfl, h1, h2⟩)
  | true =>
  have hfd3 : fol = true ∨ fol = false := by cases fol <;> simp
  clear hfd2
  by_cases h3 : f3 = 0
  · subst h3
    have hr : lastB (abs T.S) true (f1, f2, 0) k = .error 2 := by unfold lastB; rw [if_pos (by simp)]
    dsimp only
    rw [hr]
    rcases hfd3 with rfl | rfl
    all_goals skip
    all_goals refine nx_seq ?_
    all_goals refine nx_region ?_
    all_goals (refine nx_op ?_; refine opw_alc Alc.alloc rfl (fun b8 => ?_))
    all_goals (refine nx_op ?_; refine opw_yld (Yld.assign rfl) rfl ?_)
    all_goals refine nx_nil ?_
    all_goals refine kp_code_normal ?_
    all_goals refine nx_seq ?_
    all_goals refine nx_draw (fun i => match i with | 3 => .read | 7 => .read | 9 => .hard | _ => .stab) [] [0, 1, 2, 3, 4, 5, 6, 7, 8, 9, 10, 11, 12, 13, 14] rfl (by kernel_rfl) inferInstance ?_
    all_goals (refine wk_stab rfl rfl (Yld.move rfl) rfl ?_)
    all_goals (refine wk_stab rfl rfl (Yld.nilCheck rfl) rfl ?_)
    all_goals (refine wk_stab rfl rfl (Yld.fieldAddr rfl) rfl ?_)
    all_goals (refine wk_read rfl rfl (Yld.load rfl) rfl ?_)
    all_goals (refine wk_stab rfl rfl (Yld.move rfl) rfl ?_)
    all_goals (refine wk_stab rfl rfl (Yld.nilCheck rfl) rfl ?_)
    all_goals (refine wk_stab rfl rfl (Yld.fieldAddr rfl) rfl ?_)
    all_goals (refine wk_read rfl rfl (Yld.load rfl) rfl ?_)
    all_goals (refine wk_stab rfl rfl (Yld.move rfl) rfl ?_)
    all_goals ((refine wk_hard rfl rfl ?_; (refine opw_call rfl (sp61 (hT.mono (by simp +contextual)) dir nm) inferInstance rfl ?_; rintro _ _ ⟨rfl, rfl⟩; simp only [List.nil_append, findR_abs, hfd, pairV]); refine nx_keeps inferInstance ?_))
    all_goals (refine wk_stab rfl rfl (Yld.move rfl) rfl ?_)
    all_goals (refine wk_stab rfl rfl (Yld.extract rfl rfl) rfl ?_)
    all_goals (refine wk_stab rfl rfl (Yld.extract rfl rfl) rfl ?_)
    all_goals (refine wk_stab rfl rfl (Yld.assign rfl) rfl ?_)
    all_goals (refine wk_stab rfl rfl (Yld.assign rfl) rfl ?_)
    all_goals refine wk_nil ?_
    all_goals refine kp_code_normal ?_
    all_goals refine nx_seq ?_
    all_goals refine nx_block ?_
    all_goals refine nx_seq ?_
    all_goals refine nx_region ?_
    all_goals (refine nx_op ?_; refine opw_yld (Yld.move rfl) rfl ?_)
    all_goals (refine nx_op ?_; refine opw_yld (Yld.cmp rfl rfl rfl) rfl ?_)
    all_goals (refine nx_op ?_; refine opw_yld (Yld.move rfl) rfl ?_)
    all_goals (first | refine nx_guard_n rfl (by first | rfl | assumption) rfl ?_ | refine nx_guard_u rfl rfl ?_ | ((first | refine nx_guard_y rfl (by first | rfl | assumption) ?_ | refine nx_guard rfl rfl (fun hc => ?_) (fun hc => ?_)); all_goals (first | (refine opw_yld (Yld.move rfl) rfl ?_) | skip)))
    all_goals (first | refine nx_guard_n rfl (by first | rfl | assumption) rfl ?_ | refine nx_guard_u rfl rfl ?_ | ((first | refine nx_guard_y rfl (by first | rfl | assumption) ?_ | refine nx_guard rfl rfl (fun hc => ?_) (fun hc => ?_)); all_goals (first | (refine opw_yld (Yld.not rfl) rfl ?_) | skip)))
    all_goals (refine nx_op ?_; (first | refine opw_yld (Yld.pick_t rfl (by first | rfl | assumption) rfl) rfl ?_ | refine opw_yld (Yld.pick_f rfl (by first | rfl | assumption) rfl) rfl ?_))
    all_goals (refine nx_op ?_; refine opw_yld (Yld.move rfl) rfl ?_)
    all_goals (first | refine nx_guard_n rfl (by first | rfl | assumption) rfl ?_ | refine nx_guard_u rfl rfl ?_ | ((first | refine nx_guard_y rfl (by first | rfl | assumption) ?_ | refine nx_guard rfl rfl (fun hc => ?_) (fun hc => ?_)); all_goals (first | (refine opw_yld (Yld.move rfl) rfl ?_) | skip)))
    all_goals (first | refine nx_guard_n rfl (by first | rfl | assumption) rfl ?_ | refine nx_guard_u rfl rfl ?_ | ((first | refine nx_guard_y rfl (by first | rfl | assumption) ?_ | refine nx_guard rfl rfl (fun hc => ?_) (fun hc => ?_)); all_goals (first | (refine opw_yld (Yld.move rfl) rfl ?_) | skip)))
    all_goals (first | refine nx_guard_n rfl (by first | rfl | assumption) rfl ?_ | refine nx_guard_u rfl rfl ?_ | ((first | refine nx_guard_y rfl (by first | rfl | assumption) ?_ | refine nx_guard rfl rfl (fun hc => ?_) (fun hc => ?_)); all_goals (first | (refine opw_yld (Yld.nilCheck rfl) rfl ?_) | skip)))
    all_goals (first | refine nx_guard_n rfl (by first | rfl | assumption) rfl ?_ | refine nx_guard_u rfl rfl ?_ | ((first | refine nx_guard_y rfl (by first | rfl | assumption) ?_ | refine nx_guard rfl rfl (fun hc => ?_) (fun hc => ?_)); all_goals (first | (refine opw_yld (Yld.fieldAddr rfl) rfl ?_) | skip)))
    all_goals (first | refine nx_guard_n rfl (by first | rfl | assumption) rfl ?_ | refine nx_guard_u rfl rfl ?_ | ((first | refine nx_guard_y rfl (by first | rfl | assumption) ?_ | refine nx_guard rfl rfl (fun hc => ?_) (fun hc => ?_)); all_goals (first | (refine opw_yld (Yld.load rfl) rfl ?_) | skip)))
    all_goals (first | refine nx_guard_n rfl (by first | rfl | assumption) rfl ?_ | refine nx_guard_u rfl rfl ?_ | ((first | refine nx_guard_y rfl (by first | rfl | assumption) ?_ | refine nx_guard rfl rfl (fun hc => ?_) (fun hc => ?_)); all_goals (first | ((refine opw_call rfl (sp130 (hT.mono (by simp +contextual)) _ (b := b) (hb := by intro y hy; simp only [wc, List.mem_singleton] at hy; subst hy; simp; first | exact ⟨rfl, rfl⟩ | exact Or.inl ⟨rfl, rfl⟩ | exact Or.inr (Or.inl ⟨rfl, rfl⟩))) inferInstance rfl ?_; rintro _ _ ⟨rfl, rfl⟩; simp only [List.nil_append])) | skip)))
    all_goals (first | refine nx_guard_n rfl (by first | rfl | assumption) rfl ?_ | refine nx_guard_u rfl rfl ?_ | ((first | refine nx_guard_y rfl (by first | rfl | assumption) ?_ | refine nx_guard rfl rfl (fun hc => ?_) (fun hc => ?_)); all_goals (first | (refine opw_yld (Yld.cmp rfl rfl rfl) rfl ?_) | skip)))
    all_goals (refine nx_op ?_; (first | refine opw_yld (Yld.pick_t rfl (by first | rfl | assumption) rfl) rfl ?_ | refine opw_yld (Yld.pick_f rfl (by first | rfl | assumption) rfl) rfl ?_))
    all_goals (refine nx_op ?_; refine opw_yld (Yld.assign rfl) rfl ?_)
    all_goals refine nx_nil ?_
    all_goals refine kp_code_normal ?_
    all_goals (refine nx_cond rfl (fun hc => ?_) (fun hc => ?_))
    all_goals (first | (exact Bool.noConfusion (hc.symm.trans (by first | rfl | assumption) : true = false)) | (exact Bool.noConfusion (hc.symm.trans (by first | rfl | assumption) : false = true)) | (all_goals refine nx_seq ?_; all_goals refine nx_region ?_; all_goals (refine nx_op ?_; refine opw_yld (Yld.move rfl) rfl ?_); all_goals (refine nx_op ?_; refine opw_yld (Yld.nilCheck rfl) rfl ?_); all_goals (refine nx_op ?_; refine opw_yld (Yld.fieldAddr rfl) rfl ?_); all_goals (refine nx_op ?_; refine opw_yld (Yld.load rfl) rfl ?_); all_goals (refine nx_op ?_; refine opw_yld (Yld.move rfl) rfl ?_); all_goals (refine nx_op ?_; refine opw_yld (Yld.build rfl rfl) rfl ?_); all_goals (refine nx_op ?_; refine opw_storeAgg rfl rfl rfl (by simp [Value.oneCell']) ?_); all_goals (refine nx_op ?_; refine opw_yld (Yld.assign rfl) rfl ?_); all_goals refine nx_nil ?_; all_goals refine kp_code_normal ?_; all_goals refine nx_ret ?_; all_goals refine kp_blk_ret ?_; all_goals refine kp_code_ret ?_; all_goals (exact resC2 (by first | exact .inl rfl | exact .inr rfl) Tryd.results93 rfl rfl [wc b T.t d' l'] inferInstance ⟨d', l', rfl, by decide, rfl⟩)) | (all_goals refine nx_seq ?_; all_goals refine nx_region ?_; all_goals (refine nx_op ?_; refine opw_yld (Yld.move rfl) rfl ?_); all_goals (refine nx_op ?_; refine opw_yld (Yld.cmp rfl rfl rfl) rfl ?_); all_goals (refine nx_op ?_; refine opw_yld (Yld.assign rfl) rfl ?_); all_goals refine nx_nil ?_; all_goals refine kp_code_normal ?_; all_goals (refine nx_cond rfl (fun hc => ?_) (fun hc => ?_)); all_goals (first | (exact Bool.noConfusion (hc.symm.trans (by first | rfl | assumption) : true = false)) | (exact Bool.noConfusion (hc.symm.trans (by first | rfl | assumption) : false = true)) | (all_goals refine nx_seq ?_; all_goals refine nx_region ?_; all_goals (refine nx_op ?_; refine opw_yld (Yld.build rfl rfl) rfl ?_); all_goals (refine nx_op ?_; refine opw_yld (Yld.move rfl) rfl ?_); all_goals (refine nx_op ?_; refine opw_storeAgg rfl rfl rfl (by simp [Value.oneCell']) ?_); all_goals (refine nx_op ?_; refine opw_yld (Yld.assign rfl) rfl ?_); all_goals refine nx_nil ?_; all_goals refine kp_code_normal ?_; all_goals refine nx_ret ?_; all_goals refine kp_blk_ret ?_; all_goals refine kp_code_ret ?_; all_goals (exact resC2 (by first | exact .inl rfl | exact .inr rfl) Tryd.results93 rfl rfl [wc b T.t d' l'] inferInstance ⟨d', l', rfl, by decide, rfl⟩)) | (all_goals refine nx_skip ?_))))
    all_goals refine kp_blk_normal ?_
    all_goals refine kp_code_normal ?_
    all_goals refine nx_seq ?_
    all_goals refine nx_region ?_
    all_goals (refine nx_op ?_; refine opw_yld (Yld.move rfl) rfl ?_)
    all_goals (refine nx_op ?_; refine opw_yld (Yld.nilCheck rfl) rfl ?_)
    all_goals (refine nx_op ?_; refine opw_yld (Yld.fieldAddr rfl) rfl ?_)
    all_goals (refine nx_op ?_; refine opw_yld (Yld.load rfl) rfl ?_)
    all_goals (refine nx_op ?_; refine opw_yld (Yld.move rfl) rfl ?_)
    all_goals (refine nx_op ?_; refine opw_yld (Yld.move rfl) rfl ?_)
    all_goals (refine nx_op ?_; refine opw_yld (Yld.build (cs := [.int .i64 dir, .string nm, .int .i64 n]) rfl rfl) rfl ?_)
    all_goals (refine nx_op ?_; refine opw_alc Alc.alloc rfl (fun b12 => ?_))
    all_goals (refine nx_op ?_; refine opw_storeAgg rfl rfl rfl (by simp [Value.oneCell']) ?_)
    all_goals refine nx_nil ?_
    all_goals refine kp_code_normal ?_
    all_goals refine nx_seq ?_
    all_goals refine nx_seq ?_
    all_goals refine nx_region ?_
    all_goals (refine nx_op ?_; refine opw_yld (Yld.move rfl) rfl ?_)
    all_goals (refine nx_op ?_; refine opw_yld (Yld.move rfl) rfl ?_)
    all_goals (refine nx_op ?_; (refine opw_call rfl (sp130 (hT.mono (by simp +contextual)) _ (b := b) (hb := by intro y hy; simp only [wc, List.mem_singleton] at hy; subst hy; simp; first | exact ⟨rfl, rfl⟩ | exact Or.inl ⟨rfl, rfl⟩ | exact Or.inr (Or.inl ⟨rfl, rfl⟩))) inferInstance rfl ?_; rintro _ _ ⟨rfl, rfl⟩; simp only [List.nil_append]))
    all_goals (refine nx_op ?_; refine opw_yld (Yld.cmp rfl rfl rfl) rfl ?_)
    all_goals (refine nx_op ?_; refine opw_yld (Yld.move rfl) rfl ?_)
    all_goals (first | refine nx_guard_n rfl (by first | rfl | assumption) rfl ?_ | refine nx_guard_u rfl rfl ?_ | ((first | refine nx_guard_y rfl (by first | rfl | assumption) ?_ | refine nx_guard rfl rfl (fun hc => ?_) (fun hc => ?_)); all_goals (first | (refine opw_yld (Yld.move rfl) rfl ?_) | skip)))
    all_goals (first | refine nx_guard_n rfl (by first | rfl | assumption) rfl ?_ | refine nx_guard_u rfl rfl ?_ | ((first | refine nx_guard_y rfl (by first | rfl | assumption) ?_ | refine nx_guard rfl rfl (fun hc => ?_) (fun hc => ?_)); all_goals (first | (refine opw_yld (Yld.move rfl) rfl ?_) | skip)))
    all_goals (first | refine nx_guard_n rfl (by first | rfl | assumption) rfl ?_ | refine nx_guard_u rfl rfl ?_ | ((first | refine nx_guard_y rfl (by first | rfl | assumption) ?_ | refine nx_guard rfl rfl (fun hc => ?_) (fun hc => ?_)); all_goals (first | (refine opw_yld (Yld.move rfl) rfl ?_) | skip)))
    all_goals (first | refine nx_guard_n rfl (by first | rfl | assumption) rfl ?_ | refine nx_guard_u rfl rfl ?_ | ((first | refine nx_guard_y rfl (by first | rfl | assumption) ?_ | refine nx_guard rfl rfl (fun hc => ?_) (fun hc => ?_)); all_goals (first | ((first | refine opw_yld (Yld.pick_t rfl (by first | rfl | assumption) rfl) rfl ?_ | refine opw_yld (Yld.pick_f rfl (by first | rfl | assumption) rfl) rfl ?_)) | skip)))
    all_goals (refine nx_op ?_; (first | refine opw_yld (Yld.pick_t rfl (by first | rfl | assumption) rfl) rfl ?_ | refine opw_yld (Yld.pick_f rfl (by first | rfl | assumption) rfl) rfl ?_))
    all_goals refine nx_nil ?_
    all_goals refine kp_code_normal ?_
    all_goals (refine nx_cond rfl (fun hc => ?_) (fun hc => ?_))
    all_goals (first | (exact Bool.noConfusion (hc.symm.trans (by first | rfl | assumption) : true = false)) | (exact Bool.noConfusion (hc.symm.trans (by first | rfl | assumption) : false = true)) | (all_goals refine nx_seq ?_; all_goals refine nx_seq ?_; all_goals refine nx_region ?_; all_goals (refine nx_op ?_; refine opw_yld (Yld.move rfl) rfl ?_); all_goals (refine nx_op ?_; refine opw_yld (Yld.move rfl) rfl ?_); all_goals (refine nx_op ?_; (refine opw_call rfl (h131 _ (hT.mono (by simp +contextual))) inferInstance rfl ?_; rintro v B ⟨d', l', rfl, rfl, h1, h2⟩; simp only [List.cons_append, List.nil_append, wc, foV])); all_goals (refine nx_op ?_; refine opw_yld (Yld.move rfl) rfl ?_); all_goals (refine nx_op ?_; refine opw_yld (Yld.extract rfl rfl) rfl ?_); all_goals (refine nx_op ?_; refine opw_yld (Yld.extract rfl rfl) rfl ?_); all_goals (refine nx_op ?_; refine opw_storeAgg rfl rfl rfl (by simp [Value.oneCell']) ?_); all_goals (refine nx_op ?_; refine opw_yld (Yld.assign rfl) rfl ?_); all_goals refine nx_nil ?_; all_goals refine kp_code_normal ?_; all_goals refine nx_seq ?_; all_goals refine nx_region ?_; all_goals (refine nx_op ?_; refine opw_yld (Yld.move rfl) rfl ?_); all_goals (refine nx_op ?_; refine opw_yld (Yld.cmp rfl rfl rfl) rfl ?_); all_goals refine nx_nil ?_; all_goals refine kp_code_normal ?_; all_goals (refine nx_cond rfl (fun hc => ?_) (fun hc => ?_)); all_goals (first | (exact Bool.noConfusion (hc.symm.trans (by first | rfl | assumption) : true = false)) | (exact Bool.noConfusion (hc.symm.trans (by first | rfl | assumption) : false = true)) | (all_goals refine nx_seq ?_; all_goals refine nx_region ?_; all_goals (refine nx_op ?_; refine opw_yld (Yld.build rfl rfl) rfl ?_); all_goals (refine nx_op ?_; refine opw_yld (Yld.move rfl) rfl ?_); all_goals (refine nx_op ?_; refine opw_storeAgg rfl rfl rfl (by simp [Value.oneCell']) ?_); all_goals (refine nx_op ?_; refine opw_yld (Yld.assign rfl) rfl ?_); all_goals refine nx_nil ?_; all_goals refine kp_code_normal ?_; all_goals refine nx_ret ?_; all_goals refine kp_code_ret ?_; all_goals refine kp_code_ret ?_; all_goals (exact resC2 (by first | exact .inl rfl | exact .inr rfl) Tryd.results93 rfl rfl [wc b T.t d' l'] inferInstance ⟨d', l', rfl, by decide, rfl⟩)) | (all_goals refine nx_skip ?_)); all_goals refine kp_code_normal ?_; all_goals refine nx_seq ?_; all_goals refine nx_region ?_; all_goals (refine nx_op ?_; refine opw_yld (Yld.fieldAddr rfl) rfl ?_); all_goals (refine nx_op ?_; refine opw_yld (Yld.load rfl) rfl ?_); all_goals (refine nx_op ?_; refine opw_yld (Yld.cmp rfl rfl rfl) rfl ?_); all_goals (refine nx_op ?_; refine opw_yld (Yld.move rfl) rfl ?_); all_goals (first | refine nx_guard_n rfl (by first | rfl | assumption) rfl ?_ | refine nx_guard_u rfl rfl ?_ | ((first | refine nx_guard_y rfl (by first | rfl | assumption) ?_ | refine nx_guard rfl rfl (fun hc => ?_) (fun hc => ?_)); all_goals (first | (refine opw_yld (Yld.move rfl) rfl ?_) | skip))); all_goals (refine nx_op ?_; (first | refine opw_yld (Yld.pick_t rfl (by first | rfl | assumption) rfl) rfl ?_ | refine opw_yld (Yld.pick_f rfl (by first | rfl | assumption) rfl) rfl ?_)); all_goals refine nx_nil ?_; all_goals refine kp_code_normal ?_; all_goals (refine nx_cond rfl (fun hc => ?_) (fun hc => ?_)); all_goals (first | (exact Bool.noConfusion (hc.symm.trans (by first | rfl | assumption) : true = false)) | (exact Bool.noConfusion (hc.symm.trans (by first | rfl | assumption) : false = true)) | (all_goals refine nx_seq ?_; all_goals refine nx_region ?_; all_goals (refine nx_op ?_; refine opw_yld (Yld.build (cs := [.int .i64 0, .string ⟨#[]⟩, .int .i64 0]) rfl rfl) rfl ?_); all_goals (refine nx_op ?_; refine opw_storeAgg rfl rfl rfl (by simp [Value.oneCell']) ?_); all_goals (refine nx_op ?_; refine opw_yld (Yld.assign rfl) rfl ?_); all_goals refine nx_nil ?_; all_goals refine kp_code_normal ?_; all_goals refine nx_ret ?_; all_goals refine kp_code_ret ?_; all_goals (exact resC2 (by first | exact .inl rfl | exact .inr rfl) Tryd.results93 rfl rfl [wc b T.t d' l'] inferInstance ⟨d', l', rfl, by decide, rfl⟩)) | (all_goals refine nx_skip ?_))) | (all_goals refine nx_skip ?_))
    all_goals refine kp_code_normal ?_
    all_goals refine nx_seq ?_
    all_goals refine nx_seq ?_
    all_goals refine nx_region ?_
    all_goals (refine nx_op ?_; refine opw_yld (Yld.move rfl) rfl ?_)
    all_goals (refine nx_op ?_; refine opw_yld (Yld.move rfl) rfl ?_)
    all_goals (first | refine nx_guard_n rfl (by first | rfl | assumption) rfl ?_ | refine nx_guard_u rfl rfl ?_ | ((first | refine nx_guard_y rfl (by first | rfl | assumption) ?_ | refine nx_guard rfl rfl (fun hc => ?_) (fun hc => ?_)); all_goals (first | (refine opw_yld (Yld.move rfl) rfl ?_) | skip)))
    all_goals (first | refine nx_guard_n rfl (by first | rfl | assumption) rfl ?_ | refine nx_guard_u rfl rfl ?_ | ((first | refine nx_guard_y rfl (by first | rfl | assumption) ?_ | refine nx_guard rfl rfl (fun hc => ?_) (fun hc => ?_)); all_goals (first | (refine opw_yld (Yld.fieldAddr rfl) rfl ?_) | skip)))
    all_goals (first | refine nx_guard_n rfl (by first | rfl | assumption) rfl ?_ | refine nx_guard_u rfl rfl ?_ | ((first | refine nx_guard_y rfl (by first | rfl | assumption) ?_ | refine nx_guard rfl rfl (fun hc => ?_) (fun hc => ?_)); all_goals (first | (refine opw_yld (Yld.load rfl) rfl ?_) | skip)))
    all_goals (first | refine nx_guard_n rfl (by first | rfl | assumption) rfl ?_ | refine nx_guard_u rfl rfl ?_ | ((first | refine nx_guard_y rfl (by first | rfl | assumption) ?_ | refine nx_guard rfl rfl (fun hc => ?_) (fun hc => ?_)); all_goals (first | ((refine opw_call rfl (sp130 (hT.mono (by simp +contextual)) _ (b := b) (hb := by intro y hy; simp only [wc, List.mem_singleton] at hy; subst hy; simp; first | exact ⟨rfl, rfl⟩ | exact Or.inl ⟨rfl, rfl⟩ | exact Or.inr (Or.inl ⟨rfl, rfl⟩))) inferInstance rfl ?_; rintro _ _ ⟨rfl, rfl⟩; simp only [List.nil_append])) | skip)))
    all_goals (first | refine nx_guard_n rfl (by first | rfl | assumption) rfl ?_ | refine nx_guard_u rfl rfl ?_ | ((first | refine nx_guard_y rfl (by first | rfl | assumption) ?_ | refine nx_guard rfl rfl (fun hc => ?_) (fun hc => ?_)); all_goals (first | (refine opw_yld (Yld.cmp rfl rfl rfl) rfl ?_) | skip)))
    all_goals (refine nx_op ?_; (first | refine opw_yld (Yld.pick_t rfl (by first | rfl | assumption) rfl) rfl ?_ | refine opw_yld (Yld.pick_f rfl (by first | rfl | assumption) rfl) rfl ?_))
    all_goals refine nx_nil ?_
    all_goals refine kp_code_normal ?_
    all_goals (refine nx_cond rfl (fun hc => ?_) (fun hc => ?_))
    all_goals (first | (exact Bool.noConfusion (hc.symm.trans (by first | rfl | assumption) : true = false)) | (exact Bool.noConfusion (hc.symm.trans (by first | rfl | assumption) : false = true)) | (all_goals refine nx_seq ?_; all_goals refine nx_region ?_; all_goals (refine nx_op ?_; refine opw_yld (Yld.build rfl rfl) rfl ?_); all_goals (refine nx_op ?_; refine opw_storeAgg rfl rfl rfl (by simp [Value.oneCell']) ?_); all_goals (refine nx_op ?_; refine opw_yld (Yld.assign rfl) rfl ?_); all_goals refine nx_nil ?_; all_goals refine kp_code_normal ?_; all_goals refine nx_ret ?_; all_goals refine kp_code_ret ?_; all_goals (exact resC2 (by first | exact .inl rfl | exact .inr rfl) Tryd.results93 rfl rfl [wc b T.t d' l'] inferInstance ⟨d', l', rfl, by decide, rfl⟩)) | (all_goals refine nx_skip ?_))
    all_goals refine kp_code_normal ?_
    all_goals refine nx_seq ?_
    all_goals refine nx_region ?_
    all_goals (refine nx_op ?_; refine opw_yld (Yld.loadAgg rfl) rfl ?_)
    all_goals (refine nx_op ?_; refine opw_storeAgg rfl rfl rfl (by simp [Value.oneCell']) ?_)
    all_goals (refine nx_op ?_; refine opw_yld (Yld.assign rfl) rfl ?_)
    all_goals refine nx_nil ?_
    all_goals refine kp_code_normal ?_
    all_goals refine nx_ret ?_
    all_goals (exact resC2 (by first | exact .inl rfl | exact .inr rfl) Tryd.results93 rfl rfl [wc b T.t d' l'] inferInstance ⟨d', l', rfl, by decide, rfl⟩)
  have hb3 : (f3 == 0) = false := by simpa using h3
  by_cases hk2 : kindA (abs T.S) f3 = 2
  · have hb2 : (kindA (abs T.S) f3 != 2) = false := by simpa using hk2
    have hr : lastB (abs T.S) true (f1, f2, f3) k = .ok ((f1, f2, f3), k) := by unfold lastB; rw [if_neg (by simp [h3]), if_neg (by simp [hk2])]
    dsimp only
    rw [hr]
    rcases hfd3 with rfl | rfl
    all_goals skip
    all_goals refine nx_seq ?_
    all_goals refine nx_region ?_
    all_goals (refine nx_op ?_; refine opw_alc Alc.alloc rfl (fun b8 => ?_))
    all_goals (refine nx_op ?_; refine opw_yld (Yld.assign rfl) rfl ?_)
    all_goals refine nx_nil ?_
    all_goals refine kp_code_normal ?_
    all_goals refine nx_seq ?_
    all_goals refine nx_draw (fun i => match i with | 3 => .read | 7 => .read | 9 => .hard | _ => .stab) [] [0, 1, 2, 3, 4, 5, 6, 7, 8, 9, 10, 11, 12, 13, 14] rfl (by kernel_rfl) inferInstance ?_
    all_goals (refine wk_stab rfl rfl (Yld.move rfl) rfl ?_)
    all_goals (refine wk_stab rfl rfl (Yld.nilCheck rfl) rfl ?_)
    all_goals (refine wk_stab rfl rfl (Yld.fieldAddr rfl) rfl ?_)
    all_goals (refine wk_read rfl rfl (Yld.load rfl) rfl ?_)
    all_goals (refine wk_stab rfl rfl (Yld.move rfl) rfl ?_)
    all_goals (refine wk_stab rfl rfl (Yld.nilCheck rfl) rfl ?_)
    all_goals (refine wk_stab rfl rfl (Yld.fieldAddr rfl) rfl ?_)
    all_goals (refine wk_read rfl rfl (Yld.load rfl) rfl ?_)
    all_goals (refine wk_stab rfl rfl (Yld.move rfl) rfl ?_)
    all_goals ((refine wk_hard rfl rfl ?_; (refine opw_call rfl (sp61 (hT.mono (by simp +contextual)) dir nm) inferInstance rfl ?_; rintro _ _ ⟨rfl, rfl⟩; simp only [List.nil_append, findR_abs, hfd, pairV]); refine nx_keeps inferInstance ?_))
    all_goals (refine wk_stab rfl rfl (Yld.move rfl) rfl ?_)
    all_goals (refine wk_stab rfl rfl (Yld.extract rfl rfl) rfl ?_)
    all_goals (refine wk_stab rfl rfl (Yld.extract rfl rfl) rfl ?_)
    all_goals (refine wk_stab rfl rfl (Yld.assign rfl) rfl ?_)
    all_goals (refine wk_stab rfl rfl (Yld.assign rfl) rfl ?_)
    all_goals refine wk_nil ?_
    all_goals refine kp_code_normal ?_
    all_goals refine nx_seq ?_
    all_goals refine nx_block ?_
    all_goals refine nx_seq ?_
    all_goals refine nx_region ?_
    all_goals (refine nx_op ?_; refine opw_yld (Yld.move rfl) rfl ?_)
    all_goals (refine nx_op ?_; refine opw_yld (Yld.cmp rfl rfl rfl) rfl ?_)
    all_goals (refine nx_op ?_; refine opw_yld (Yld.move rfl) rfl ?_)
    all_goals (first | refine nx_guard_n rfl (by first | rfl | assumption) rfl ?_ | refine nx_guard_u rfl rfl ?_ | ((first | refine nx_guard_y rfl (by first | rfl | assumption) ?_ | refine nx_guard rfl rfl (fun hc => ?_) (fun hc => ?_)); all_goals (first | (refine opw_yld (Yld.move rfl) rfl ?_) | skip)))
    all_goals (first | refine nx_guard_n rfl (by first | rfl | assumption) rfl ?_ | refine nx_guard_u rfl rfl ?_ | ((first | refine nx_guard_y rfl (by first | rfl | assumption) ?_ | refine nx_guard rfl rfl (fun hc => ?_) (fun hc => ?_)); all_goals (first | (refine opw_yld (Yld.not rfl) rfl ?_) | skip)))
    all_goals (refine nx_op ?_; (first | refine opw_yld (Yld.pick_t rfl (by first | rfl | assumption) rfl) rfl ?_ | refine opw_yld (Yld.pick_f rfl (by first | rfl | assumption) rfl) rfl ?_))
    all_goals (refine nx_op ?_; refine opw_yld (Yld.move rfl) rfl ?_)
    all_goals (first | refine nx_guard_n rfl (by first | rfl | assumption) rfl ?_ | refine nx_guard_u rfl rfl ?_ | ((first | refine nx_guard_y rfl (by first | rfl | assumption) ?_ | refine nx_guard rfl rfl (fun hc => ?_) (fun hc => ?_)); all_goals (first | (refine opw_yld (Yld.move rfl) rfl ?_) | skip)))
    all_goals (first | refine nx_guard_n rfl (by first | rfl | assumption) rfl ?_ | refine nx_guard_u rfl rfl ?_ | ((first | refine nx_guard_y rfl (by first | rfl | assumption) ?_ | refine nx_guard rfl rfl (fun hc => ?_) (fun hc => ?_)); all_goals (first | (refine opw_yld (Yld.move rfl) rfl ?_) | skip)))
    all_goals (first | refine nx_guard_n rfl (by first | rfl | assumption) rfl ?_ | refine nx_guard_u rfl rfl ?_ | ((first | refine nx_guard_y rfl (by first | rfl | assumption) ?_ | refine nx_guard rfl rfl (fun hc => ?_) (fun hc => ?_)); all_goals (first | (refine opw_yld (Yld.nilCheck rfl) rfl ?_) | skip)))
    all_goals (first | refine nx_guard_n rfl (by first | rfl | assumption) rfl ?_ | refine nx_guard_u rfl rfl ?_ | ((first | refine nx_guard_y rfl (by first | rfl | assumption) ?_ | refine nx_guard rfl rfl (fun hc => ?_) (fun hc => ?_)); all_goals (first | (refine opw_yld (Yld.fieldAddr rfl) rfl ?_) | skip)))
    all_goals (first | refine nx_guard_n rfl (by first | rfl | assumption) rfl ?_ | refine nx_guard_u rfl rfl ?_ | ((first | refine nx_guard_y rfl (by first | rfl | assumption) ?_ | refine nx_guard rfl rfl (fun hc => ?_) (fun hc => ?_)); all_goals (first | (refine opw_yld (Yld.load rfl) rfl ?_) | skip)))
    all_goals (first | refine nx_guard_n rfl (by first | rfl | assumption) rfl ?_ | refine nx_guard_u rfl rfl ?_ | ((first | refine nx_guard_y rfl (by first | rfl | assumption) ?_ | refine nx_guard rfl rfl (fun hc => ?_) (fun hc => ?_)); all_goals (first | ((refine opw_call rfl (sp130 (hT.mono (by simp +contextual)) _ (b := b) (hb := by intro y hy; simp only [wc, List.mem_singleton] at hy; subst hy; simp; first | exact ⟨rfl, rfl⟩ | exact Or.inl ⟨rfl, rfl⟩ | exact Or.inr (Or.inl ⟨rfl, rfl⟩))) inferInstance rfl ?_; rintro _ _ ⟨rfl, rfl⟩; simp only [List.nil_append])) | skip)))
    all_goals (first | refine nx_guard_n rfl (by first | rfl | assumption) rfl ?_ | refine nx_guard_u rfl rfl ?_ | ((first | refine nx_guard_y rfl (by first | rfl | assumption) ?_ | refine nx_guard rfl rfl (fun hc => ?_) (fun hc => ?_)); all_goals (first | (refine opw_yld (Yld.cmp rfl rfl rfl) rfl ?_) | skip)))
    all_goals (refine nx_op ?_; (first | refine opw_yld (Yld.pick_t rfl (by first | rfl | assumption) rfl) rfl ?_ | refine opw_yld (Yld.pick_f rfl (by first | rfl | assumption) rfl) rfl ?_))
    all_goals (refine nx_op ?_; refine opw_yld (Yld.assign rfl) rfl ?_)
    all_goals refine nx_nil ?_
    all_goals refine kp_code_normal ?_
    all_goals (refine nx_cond rfl (fun hc => ?_) (fun hc => ?_))
    all_goals (first | (exact Bool.noConfusion (hc.symm.trans (by first | rfl | assumption) : true = false)) | (exact Bool.noConfusion (hc.symm.trans (by first | rfl | assumption) : false = true)) | (all_goals refine nx_seq ?_; all_goals refine nx_region ?_; all_goals (refine nx_op ?_; refine opw_yld (Yld.move rfl) rfl ?_); all_goals (refine nx_op ?_; refine opw_yld (Yld.nilCheck rfl) rfl ?_); all_goals (refine nx_op ?_; refine opw_yld (Yld.fieldAddr rfl) rfl ?_); all_goals (refine nx_op ?_; refine opw_yld (Yld.load rfl) rfl ?_); all_goals (refine nx_op ?_; refine opw_yld (Yld.move rfl) rfl ?_); all_goals (refine nx_op ?_; refine opw_yld (Yld.build rfl rfl) rfl ?_); all_goals (refine nx_op ?_; refine opw_storeAgg rfl rfl rfl (by simp [Value.oneCell']) ?_); all_goals (refine nx_op ?_; refine opw_yld (Yld.assign rfl) rfl ?_); all_goals refine nx_nil ?_; all_goals refine kp_code_normal ?_; all_goals refine nx_ret ?_; all_goals refine kp_blk_ret ?_; all_goals refine kp_code_ret ?_; all_goals (exact resC2 (by first | exact .inl rfl | exact .inr rfl) Tryd.results93 rfl rfl [wc b T.t d' l'] inferInstance ⟨d', l', rfl, rfl, h1, h2⟩)) | (all_goals refine nx_seq ?_; all_goals refine nx_region ?_; all_goals (refine nx_op ?_; refine opw_yld (Yld.move rfl) rfl ?_); all_goals (refine nx_op ?_; refine opw_yld (Yld.cmp rfl rfl rfl) rfl ?_); all_goals (refine nx_op ?_; refine opw_yld (Yld.assign rfl) rfl ?_); all_goals refine nx_nil ?_; all_goals refine kp_code_normal ?_; all_goals (refine nx_cond rfl (fun hc => ?_) (fun hc => ?_)); all_goals (first | (exact Bool.noConfusion (hc.symm.trans (by first | rfl | assumption) : true = false)) | (exact Bool.noConfusion (hc.symm.trans (by first | rfl | assumption) : false = true)) | (all_goals refine nx_seq ?_; all_goals refine nx_region ?_; all_goals (refine nx_op ?_; refine opw_yld (Yld.build rfl rfl) rfl ?_); all_goals (refine nx_op ?_; refine opw_yld (Yld.move rfl) rfl ?_); all_goals (refine nx_op ?_; refine opw_storeAgg rfl rfl rfl (by simp [Value.oneCell']) ?_); all_goals (refine nx_op ?_; refine opw_yld (Yld.assign rfl) rfl ?_); all_goals refine nx_nil ?_; all_goals refine kp_code_normal ?_; all_goals refine nx_ret ?_; all_goals refine kp_blk_ret ?_; all_goals refine kp_code_ret ?_; all_goals (exact resC2 (by first | exact .inl rfl | exact .inr rfl) Tryd.results93 rfl rfl [wc b T.t d' l'] inferInstance ⟨d', l', rfl, rfl, h1, h2⟩)) | (all_goals refine nx_skip ?_))))
    all_goals refine kp_blk_normal ?_
    all_goals refine kp_code_normal ?_
    all_goals refine nx_seq ?_
    all_goals refine nx_region ?_
    all_goals (refine nx_op ?_; refine opw_yld (Yld.move rfl) rfl ?_)
    all_goals (refine nx_op ?_; refine opw_yld (Yld.nilCheck rfl) rfl ?_)
    all_goals (refine nx_op ?_; refine opw_yld (Yld.fieldAddr rfl) rfl ?_)
    all_goals (refine nx_op ?_; refine opw_yld (Yld.load rfl) rfl ?_)
    all_goals (refine nx_op ?_; refine opw_yld (Yld.move rfl) rfl ?_)
    all_goals (refine nx_op ?_; refine opw_yld (Yld.move rfl) rfl ?_)
    all_goals (refine nx_op ?_; refine opw_yld (Yld.build (cs := [.int .i64 dir, .string nm, .int .i64 n]) rfl rfl) rfl ?_)
    all_goals (refine nx_op ?_; refine opw_alc Alc.alloc rfl (fun b12 => ?_))
    all_goals (refine nx_op ?_; refine opw_storeAgg rfl rfl rfl (by simp [Value.oneCell']) ?_)
    all_goals refine nx_nil ?_
    all_goals refine kp_code_normal ?_
    all_goals refine nx_seq ?_
    all_goals refine nx_seq ?_
    all_goals refine nx_region ?_
    all_goals (refine nx_op ?_; refine opw_yld (Yld.move rfl) rfl ?_)
    all_goals (refine nx_op ?_; refine opw_yld (Yld.move rfl) rfl ?_)
    all_goals (refine nx_op ?_; (refine opw_call rfl (sp130 (hT.mono (by simp +contextual)) _ (b := b) (hb := by intro y hy; simp only [wc, List.mem_singleton] at hy; subst hy; simp; first | exact ⟨rfl, rfl⟩ | exact Or.inl ⟨rfl, rfl⟩ | exact Or.inr (Or.inl ⟨rfl, rfl⟩))) inferInstance rfl ?_; rintro _ _ ⟨rfl, rfl⟩; simp only [List.nil_append]))
    all_goals (refine nx_op ?_; refine opw_yld (Yld.cmp rfl rfl rfl) rfl ?_)
    all_goals (refine nx_op ?_; refine opw_yld (Yld.move rfl) rfl ?_)
    all_goals (first | refine nx_guard_n rfl (by first | rfl | assumption) rfl ?_ | refine nx_guard_u rfl rfl ?_ | ((first | refine nx_guard_y rfl (by first | rfl | assumption) ?_ | refine nx_guard rfl rfl (fun hc => ?_) (fun hc => ?_)); all_goals (first | (refine opw_yld (Yld.move rfl) rfl ?_) | skip)))
    all_goals (first | refine nx_guard_n rfl (by first | rfl | assumption) rfl ?_ | refine nx_guard_u rfl rfl ?_ | ((first | refine nx_guard_y rfl (by first | rfl | assumption) ?_ | refine nx_guard rfl rfl (fun hc => ?_) (fun hc => ?_)); all_goals (first | (refine opw_yld (Yld.move rfl) rfl ?_) | skip)))
    all_goals (first | refine nx_guard_n rfl (by first | rfl | assumption) rfl ?_ | refine nx_guard_u rfl rfl ?_ | ((first | refine nx_guard_y rfl (by first | rfl | assumption) ?_ | refine nx_guard rfl rfl (fun hc => ?_) (fun hc => ?_)); all_goals (first | (refine opw_yld (Yld.move rfl) rfl ?_) | skip)))
    all_goals (first | refine nx_guard_n rfl (by first | rfl | assumption) rfl ?_ | refine nx_guard_u rfl rfl ?_ | ((first | refine nx_guard_y rfl (by first | rfl | assumption) ?_ | refine nx_guard rfl rfl (fun hc => ?_) (fun hc => ?_)); all_goals (first | ((first | refine opw_yld (Yld.pick_t rfl (by first | rfl | assumption) rfl) rfl ?_ | refine opw_yld (Yld.pick_f rfl (by first | rfl | assumption) rfl) rfl ?_)) | skip)))
    all_goals (refine nx_op ?_; (first | refine opw_yld (Yld.pick_t rfl (by first | rfl | assumption) rfl) rfl ?_ | refine opw_yld (Yld.pick_f rfl (by first | rfl | assumption) rfl) rfl ?_))
    all_goals refine nx_nil ?_
    all_goals refine kp_code_normal ?_
    all_goals (refine nx_cond rfl (fun hc => ?_) (fun hc => ?_))
    all_goals (first | (exact Bool.noConfusion (hc.symm.trans (by first | rfl | assumption) : true = false)) | (exact Bool.noConfusion (hc.symm.trans (by first | rfl | assumption) : false = true)) | (all_goals refine nx_seq ?_; all_goals refine nx_seq ?_; all_goals refine nx_region ?_; all_goals (refine nx_op ?_; refine opw_yld (Yld.move rfl) rfl ?_); all_goals (refine nx_op ?_; refine opw_yld (Yld.move rfl) rfl ?_); all_goals (refine nx_op ?_; (refine opw_call rfl (h131 _ (hT.mono (by simp +contextual))) inferInstance rfl ?_; rintro v B ⟨d', l', rfl, rfl, h1, h2⟩; simp only [List.cons_append, List.nil_append, wc, foV])); all_goals (refine nx_op ?_; refine opw_yld (Yld.move rfl) rfl ?_); all_goals (refine nx_op ?_; refine opw_yld (Yld.extract rfl rfl) rfl ?_); all_goals (refine nx_op ?_; refine opw_yld (Yld.extract rfl rfl) rfl ?_); all_goals (refine nx_op ?_; refine opw_storeAgg rfl rfl rfl (by simp [Value.oneCell']) ?_); all_goals (refine nx_op ?_; refine opw_yld (Yld.assign rfl) rfl ?_); all_goals refine nx_nil ?_; all_goals refine kp_code_normal ?_; all_goals refine nx_seq ?_; all_goals refine nx_region ?_; all_goals (refine nx_op ?_; refine opw_yld (Yld.move rfl) rfl ?_); all_goals (refine nx_op ?_; refine opw_yld (Yld.cmp rfl rfl rfl) rfl ?_); all_goals refine nx_nil ?_; all_goals refine kp_code_normal ?_; all_goals (refine nx_cond rfl (fun hc => ?_) (fun hc => ?_)); all_goals (first | (exact Bool.noConfusion (hc.symm.trans (by first | rfl | assumption) : true = false)) | (exact Bool.noConfusion (hc.symm.trans (by first | rfl | assumption) : false = true)) | (all_goals refine nx_seq ?_; all_goals refine nx_region ?_; all_goals (refine nx_op ?_; refine opw_yld (Yld.build rfl rfl) rfl ?_); all_goals (refine nx_op ?_; refine opw_yld (Yld.move rfl) rfl ?_); all_goals (refine nx_op ?_; refine opw_storeAgg rfl rfl rfl (by simp [Value.oneCell']) ?_); all_goals (refine nx_op ?_; refine opw_yld (Yld.assign rfl) rfl ?_); all_goals refine nx_nil ?_; all_goals refine kp_code_normal ?_; all_goals refine nx_ret ?_; all_goals refine kp_code_ret ?_; all_goals refine kp_code_ret ?_; all_goals (exact resC2 (by first | exact .inl rfl | exact .inr rfl) Tryd.results93 rfl rfl [wc b T.t d' l'] inferInstance ⟨d', l', rfl, rfl, h1, h2⟩)) | (all_goals refine nx_skip ?_)); all_goals refine kp_code_normal ?_; all_goals refine nx_seq ?_; all_goals refine nx_region ?_; all_goals (refine nx_op ?_; refine opw_yld (Yld.fieldAddr rfl) rfl ?_); all_goals (refine nx_op ?_; refine opw_yld (Yld.load rfl) rfl ?_); all_goals (refine nx_op ?_; refine opw_yld (Yld.cmp rfl rfl rfl) rfl ?_); all_goals (refine nx_op ?_; refine opw_yld (Yld.move rfl) rfl ?_); all_goals (first | refine nx_guard_n rfl (by first | rfl | assumption) rfl ?_ | refine nx_guard_u rfl rfl ?_ | ((first | refine nx_guard_y rfl (by first | rfl | assumption) ?_ | refine nx_guard rfl rfl (fun hc => ?_) (fun hc => ?_)); all_goals (first | (refine opw_yld (Yld.move rfl) rfl ?_) | skip))); all_goals (refine nx_op ?_; (first | refine opw_yld (Yld.pick_t rfl (by first | rfl | assumption) rfl) rfl ?_ | refine opw_yld (Yld.pick_f rfl (by first | rfl | assumption) rfl) rfl ?_)); all_goals refine nx_nil ?_; all_goals refine kp_code_normal ?_; all_goals (refine nx_cond rfl (fun hc => ?_) (fun hc => ?_)); all_goals (first | (exact Bool.noConfusion (hc.symm.trans (by first | rfl | assumption) : true = false)) | (exact Bool.noConfusion (hc.symm.trans (by first | rfl | assumption) : false = true)) | (all_goals refine nx_seq ?_; all_goals refine nx_region ?_; all_goals (refine nx_op ?_; refine opw_yld (Yld.build rfl rfl) rfl ?_); all_goals (refine nx_op ?_; refine opw_storeAgg rfl rfl rfl (by simp [Value.oneCell']) ?_); all_goals (refine nx_op ?_; refine opw_yld (Yld.assign rfl) rfl ?_); all_goals refine nx_nil ?_; all_goals refine kp_code_normal ?_; all_goals refine nx_ret ?_; all_goals refine kp_code_ret ?_; all_goals (exact resC2 (by first | exact .inl rfl | exact .inr rfl) Tryd.results93 rfl rfl [wc b T.t d' l'] inferInstance ⟨d', l', rfl, rfl, h1, h2⟩)) | (all_goals refine nx_skip ?_))) | (all_goals refine nx_skip ?_))
    all_goals refine kp_code_normal ?_
    all_goals refine nx_seq ?_
    all_goals refine nx_seq ?_
    all_goals refine nx_region ?_
    all_goals (refine nx_op ?_; refine opw_yld (Yld.move rfl) rfl ?_)
    all_goals (refine nx_op ?_; refine opw_yld (Yld.move rfl) rfl ?_)
    all_goals (first | refine nx_guard_n rfl (by first | rfl | assumption) rfl ?_ | refine nx_guard_u rfl rfl ?_ | ((first | refine nx_guard_y rfl (by first | rfl | assumption) ?_ | refine nx_guard rfl rfl (fun hc => ?_) (fun hc => ?_)); all_goals (first | (refine opw_yld (Yld.move rfl) rfl ?_) | skip)))
    all_goals (first | refine nx_guard_n rfl (by first | rfl | assumption) rfl ?_ | refine nx_guard_u rfl rfl ?_ | ((first | refine nx_guard_y rfl (by first | rfl | assumption) ?_ | refine nx_guard rfl rfl (fun hc => ?_) (fun hc => ?_)); all_goals (first | (refine opw_yld (Yld.fieldAddr rfl) rfl ?_) | skip)))
    all_goals (first | refine nx_guard_n rfl (by first | rfl | assumption) rfl ?_ | refine nx_guard_u rfl rfl ?_ | ((first | refine nx_guard_y rfl (by first | rfl | assumption) ?_ | refine nx_guard rfl rfl (fun hc => ?_) (fun hc => ?_)); all_goals (first | (refine opw_yld (Yld.load rfl) rfl ?_) | skip)))
    all_goals (first | refine nx_guard_n rfl (by first | rfl | assumption) rfl ?_ | refine nx_guard_u rfl rfl ?_ | ((first | refine nx_guard_y rfl (by first | rfl | assumption) ?_ | refine nx_guard rfl rfl (fun hc => ?_) (fun hc => ?_)); all_goals (first | ((refine opw_call rfl (sp130 (hT.mono (by simp +contextual)) _ (b := b) (hb := by intro y hy; simp only [wc, List.mem_singleton] at hy; subst hy; simp; first | exact ⟨rfl, rfl⟩ | exact Or.inl ⟨rfl, rfl⟩ | exact Or.inr (Or.inl ⟨rfl, rfl⟩))) inferInstance rfl ?_; rintro _ _ ⟨rfl, rfl⟩; simp only [List.nil_append])) | skip)))
    all_goals (first | refine nx_guard_n rfl (by first | rfl | assumption) rfl ?_ | refine nx_guard_u rfl rfl ?_ | ((first | refine nx_guard_y rfl (by first | rfl | assumption) ?_ | refine nx_guard rfl rfl (fun hc => ?_) (fun hc => ?_)); all_goals (first | (refine opw_yld (Yld.cmp rfl rfl rfl) rfl ?_) | skip)))
    all_goals (refine nx_op ?_; (first | refine opw_yld (Yld.pick_t rfl (by first | rfl | assumption) rfl) rfl ?_ | refine opw_yld (Yld.pick_f rfl (by first | rfl | assumption) rfl) rfl ?_))
    all_goals refine nx_nil ?_
    all_goals refine kp_code_normal ?_
    all_goals (refine nx_cond rfl (fun hc => ?_) (fun hc => ?_))
    all_goals (first | (exact Bool.noConfusion (hc.symm.trans (by first | rfl | assumption) : true = false)) | (exact Bool.noConfusion (hc.symm.trans (by first | rfl | assumption) : false = true)) | (all_goals refine nx_seq ?_; all_goals refine nx_region ?_; all_goals (refine nx_op ?_; refine opw_yld (Yld.build rfl rfl) rfl ?_); all_goals (refine nx_op ?_; refine opw_storeAgg rfl rfl rfl (by simp [Value.oneCell']) ?_); all_goals (refine nx_op ?_; refine opw_yld (Yld.assign rfl) rfl ?_); all_goals refine nx_nil ?_; all_goals refine kp_code_normal ?_; all_goals refine nx_ret ?_; all_goals refine kp_code_ret ?_; all_goals (exact resC2 (by first | exact .inl rfl | exact .inr rfl) Tryd.results93 rfl rfl [wc b T.t d' l'] inferInstance ⟨d', l', rfl, rfl, h1, h2⟩)) | (all_goals refine nx_skip ?_))
    all_goals refine kp_code_normal ?_
    all_goals refine nx_seq ?_
    all_goals refine nx_region ?_
    all_goals (refine nx_op ?_; refine opw_yld (Yld.loadAgg rfl) rfl ?_)
    all_goals (refine nx_op ?_; refine opw_storeAgg rfl rfl rfl (by simp [Value.oneCell']) ?_)
    all_goals (refine nx_op ?_; refine opw_yld (Yld.assign rfl) rfl ?_)
    all_goals refine nx_nil ?_
    all_goals refine kp_code_normal ?_
    all_goals refine nx_ret ?_
    all_goals (exact resC2 (by first | exact .inl rfl | exact .inr rfl) Tryd.results93 rfl rfl [wc b T.t d' l'] inferInstance ⟨d', l', rfl, rfl, h1, h2⟩)
  · have hb2 : (kindA (abs T.S) f3 != 2) = true := by simpa using hk2
    have hr : lastB (abs T.S) true (f1, f2, f3) k = .error 20 := by unfold lastB; rw [if_neg (by simp [h3]), if_pos (by simp [hk2])]
    dsimp only
    rw [hr]
    rcases hfd3 with rfl | rfl
    all_goals skip
    all_goals refine nx_seq ?_
    all_goals refine nx_region ?_
    all_goals (refine nx_op ?_; refine opw_alc Alc.alloc rfl (fun b8 => ?_))
    all_goals (refine nx_op ?_; refine opw_yld (Yld.assign rfl) rfl ?_)
    all_goals refine nx_nil ?_
    all_goals refine kp_code_normal ?_
    all_goals refine nx_seq ?_
    all_goals refine nx_draw (fun i => match i with | 3 => .read | 7 => .read | 9 => .hard | _ => .stab) [] [0, 1, 2, 3, 4, 5, 6, 7, 8, 9, 10, 11, 12, 13, 14] rfl (by kernel_rfl) inferInstance ?_
    all_goals (refine wk_stab rfl rfl (Yld.move rfl) rfl ?_)
    all_goals (refine wk_stab rfl rfl (Yld.nilCheck rfl) rfl ?_)
    all_goals (refine wk_stab rfl rfl (Yld.fieldAddr rfl) rfl ?_)
    all_goals (refine wk_read rfl rfl (Yld.load rfl) rfl ?_)
    all_goals (refine wk_stab rfl rfl (Yld.move rfl) rfl ?_)
    all_goals (refine wk_stab rfl rfl (Yld.nilCheck rfl) rfl ?_)
    all_goals (refine wk_stab rfl rfl (Yld.fieldAddr rfl) rfl ?_)
    all_goals (refine wk_read rfl rfl (Yld.load rfl) rfl ?_)
    all_goals (refine wk_stab rfl rfl (Yld.move rfl) rfl ?_)
    all_goals ((refine wk_hard rfl rfl ?_; (refine opw_call rfl (sp61 (hT.mono (by simp +contextual)) dir nm) inferInstance rfl ?_; rintro _ _ ⟨rfl, rfl⟩; simp only [List.nil_append, findR_abs, hfd, pairV]); refine nx_keeps inferInstance ?_))
    all_goals (refine wk_stab rfl rfl (Yld.move rfl) rfl ?_)
    all_goals (refine wk_stab rfl rfl (Yld.extract rfl rfl) rfl ?_)
    all_goals (refine wk_stab rfl rfl (Yld.extract rfl rfl) rfl ?_)
    all_goals (refine wk_stab rfl rfl (Yld.assign rfl) rfl ?_)
    all_goals (refine wk_stab rfl rfl (Yld.assign rfl) rfl ?_)
    all_goals refine wk_nil ?_
    all_goals refine kp_code_normal ?_
    all_goals refine nx_seq ?_
    all_goals refine nx_block ?_
    all_goals refine nx_seq ?_
    all_goals refine nx_region ?_
    all_goals (refine nx_op ?_; refine opw_yld (Yld.move rfl) rfl ?_)
    all_goals (refine nx_op ?_; refine opw_yld (Yld.cmp rfl rfl rfl) rfl ?_)
    all_goals (refine nx_op ?_; refine opw_yld (Yld.move rfl) rfl ?_)
    all_goals (first | refine nx_guard_n rfl (by first | rfl | assumption) rfl ?_ | refine nx_guard_u rfl rfl ?_ | ((first | refine nx_guard_y rfl (by first | rfl | assumption) ?_ | refine nx_guard rfl rfl (fun hc => ?_) (fun hc => ?_)); all_goals (first | (refine opw_yld (Yld.move rfl) rfl ?_) | skip)))
    all_goals (first | refine nx_guard_n rfl (by first | rfl | assumption) rfl ?_ | refine nx_guard_u rfl rfl ?_ | ((first | refine nx_guard_y rfl (by first | rfl | assumption) ?_ | refine nx_guard rfl rfl (fun hc => ?_) (fun hc => ?_)); all_goals (first | (refine opw_yld (Yld.not rfl) rfl ?_) | skip)))
    all_goals (refine nx_op ?_; (first | refine opw_yld (Yld.pick_t rfl (by first | rfl | assumption) rfl) rfl ?_ | refine opw_yld (Yld.pick_f rfl (by first | rfl | assumption) rfl) rfl ?_))
    all_goals (refine nx_op ?_; refine opw_yld (Yld.move rfl) rfl ?_)
    all_goals (first | refine nx_guard_n rfl (by first | rfl | assumption) rfl ?_ | refine nx_guard_u rfl rfl ?_ | ((first | refine nx_guard_y rfl (by first | rfl | assumption) ?_ | refine nx_guard rfl rfl (fun hc => ?_) (fun hc => ?_)); all_goals (first | (refine opw_yld (Yld.move rfl) rfl ?_) | skip)))
    all_goals (first | refine nx_guard_n rfl (by first | rfl | assumption) rfl ?_ | refine nx_guard_u rfl rfl ?_ | ((first | refine nx_guard_y rfl (by first | rfl | assumption) ?_ | refine nx_guard rfl rfl (fun hc => ?_) (fun hc => ?_)); all_goals (first | (refine opw_yld (Yld.move rfl) rfl ?_) | skip)))
    all_goals (first | refine nx_guard_n rfl (by first | rfl | assumption) rfl ?_ | refine nx_guard_u rfl rfl ?_ | ((first | refine nx_guard_y rfl (by first | rfl | assumption) ?_ | refine nx_guard rfl rfl (fun hc => ?_) (fun hc => ?_)); all_goals (first | (refine opw_yld (Yld.nilCheck rfl) rfl ?_) | skip)))
    all_goals (first | refine nx_guard_n rfl (by first | rfl | assumption) rfl ?_ | refine nx_guard_u rfl rfl ?_ | ((first | refine nx_guard_y rfl (by first | rfl | assumption) ?_ | refine nx_guard rfl rfl (fun hc => ?_) (fun hc => ?_)); all_goals (first | (refine opw_yld (Yld.fieldAddr rfl) rfl ?_) | skip)))
    all_goals (first | refine nx_guard_n rfl (by first | rfl | assumption) rfl ?_ | refine nx_guard_u rfl rfl ?_ | ((first | refine nx_guard_y rfl (by first | rfl | assumption) ?_ | refine nx_guard rfl rfl (fun hc => ?_) (fun hc => ?_)); all_goals (first | (refine opw_yld (Yld.load rfl) rfl ?_) | skip)))
    all_goals (first | refine nx_guard_n rfl (by first | rfl | assumption) rfl ?_ | refine nx_guard_u rfl rfl ?_ | ((first | refine nx_guard_y rfl (by first | rfl | assumption) ?_ | refine nx_guard rfl rfl (fun hc => ?_) (fun hc => ?_)); all_goals (first | ((refine opw_call rfl (sp130 (hT.mono (by simp +contextual)) _ (b := b) (hb := by intro y hy; simp only [wc, List.mem_singleton] at hy; subst hy; simp; first | exact ⟨rfl, rfl⟩ | exact Or.inl ⟨rfl, rfl⟩ | exact Or.inr (Or.inl ⟨rfl, rfl⟩))) inferInstance rfl ?_; rintro _ _ ⟨rfl, rfl⟩; simp only [List.nil_append])) | skip)))
    all_goals (first | refine nx_guard_n rfl (by first | rfl | assumption) rfl ?_ | refine nx_guard_u rfl rfl ?_ | ((first | refine nx_guard_y rfl (by first | rfl | assumption) ?_ | refine nx_guard rfl rfl (fun hc => ?_) (fun hc => ?_)); all_goals (first | (refine opw_yld (Yld.cmp rfl rfl rfl) rfl ?_) | skip)))
    all_goals (refine nx_op ?_; (first | refine opw_yld (Yld.pick_t rfl (by first | rfl | assumption) rfl) rfl ?_ | refine opw_yld (Yld.pick_f rfl (by first | rfl | assumption) rfl) rfl ?_))
    all_goals (refine nx_op ?_; refine opw_yld (Yld.assign rfl) rfl ?_)
    all_goals refine nx_nil ?_
    all_goals refine kp_code_normal ?_
    all_goals (refine nx_cond rfl (fun hc => ?_) (fun hc => ?_))
    all_goals (first | (exact Bool.noConfusion (hc.symm.trans (by first | rfl | assumption) : true = false)) | (exact Bool.noConfusion (hc.symm.trans (by first | rfl | assumption) : false = true)) | (all_goals refine nx_seq ?_; all_goals refine nx_region ?_; all_goals (refine nx_op ?_; refine opw_yld (Yld.move rfl) rfl ?_); all_goals (refine nx_op ?_; refine opw_yld (Yld.nilCheck rfl) rfl ?_); all_goals (refine nx_op ?_; refine opw_yld (Yld.fieldAddr rfl) rfl ?_); all_goals (refine nx_op ?_; refine opw_yld (Yld.load rfl) rfl ?_); all_goals (refine nx_op ?_; refine opw_yld (Yld.move rfl) rfl ?_); all_goals (refine nx_op ?_; refine opw_yld (Yld.build rfl rfl) rfl ?_); all_goals (refine nx_op ?_; refine opw_storeAgg rfl rfl rfl (by simp [Value.oneCell']) ?_); all_goals (refine nx_op ?_; refine opw_yld (Yld.assign rfl) rfl ?_); all_goals refine nx_nil ?_; all_goals refine kp_code_normal ?_; all_goals refine nx_ret ?_; all_goals refine kp_blk_ret ?_; all_goals refine kp_code_ret ?_; all_goals (exact resC2 (by first | exact .inl rfl | exact .inr rfl) Tryd.results93 rfl rfl [wc b T.t d' l'] inferInstance ⟨d', l', rfl, by decide, rfl⟩)) | (all_goals refine nx_seq ?_; all_goals refine nx_region ?_; all_goals (refine nx_op ?_; refine opw_yld (Yld.move rfl) rfl ?_); all_goals (refine nx_op ?_; refine opw_yld (Yld.cmp rfl rfl rfl) rfl ?_); all_goals (refine nx_op ?_; refine opw_yld (Yld.assign rfl) rfl ?_); all_goals refine nx_nil ?_; all_goals refine kp_code_normal ?_; all_goals (refine nx_cond rfl (fun hc => ?_) (fun hc => ?_)); all_goals (first | (exact Bool.noConfusion (hc.symm.trans (by first | rfl | assumption) : true = false)) | (exact Bool.noConfusion (hc.symm.trans (by first | rfl | assumption) : false = true)) | (all_goals refine nx_seq ?_; all_goals refine nx_region ?_; all_goals (refine nx_op ?_; refine opw_yld (Yld.build rfl rfl) rfl ?_); all_goals (refine nx_op ?_; refine opw_yld (Yld.move rfl) rfl ?_); all_goals (refine nx_op ?_; refine opw_storeAgg rfl rfl rfl (by simp [Value.oneCell']) ?_); all_goals (refine nx_op ?_; refine opw_yld (Yld.assign rfl) rfl ?_); all_goals refine nx_nil ?_; all_goals refine kp_code_normal ?_; all_goals refine nx_ret ?_; all_goals refine kp_blk_ret ?_; all_goals refine kp_code_ret ?_; all_goals (exact resC2 (by first | exact .inl rfl | exact .inr rfl) Tryd.results93 rfl rfl [wc b T.t d' l'] inferInstance ⟨d', l', rfl, by decide, rfl⟩)) | (all_goals refine nx_skip ?_))))
    all_goals refine kp_blk_normal ?_
    all_goals refine kp_code_normal ?_
    all_goals refine nx_seq ?_
    all_goals refine nx_region ?_
    all_goals (refine nx_op ?_; refine opw_yld (Yld.move rfl) rfl ?_)
    all_goals (refine nx_op ?_; refine opw_yld (Yld.nilCheck rfl) rfl ?_)
    all_goals (refine nx_op ?_; refine opw_yld (Yld.fieldAddr rfl) rfl ?_)
    all_goals (refine nx_op ?_; refine opw_yld (Yld.load rfl) rfl ?_)
    all_goals (refine nx_op ?_; refine opw_yld (Yld.move rfl) rfl ?_)
    all_goals (refine nx_op ?_; refine opw_yld (Yld.move rfl) rfl ?_)
    all_goals (refine nx_op ?_; refine opw_yld (Yld.build (cs := [.int .i64 dir, .string nm, .int .i64 n]) rfl rfl) rfl ?_)
    all_goals (refine nx_op ?_; refine opw_alc Alc.alloc rfl (fun b12 => ?_))
    all_goals (refine nx_op ?_; refine opw_storeAgg rfl rfl rfl (by simp [Value.oneCell']) ?_)
    all_goals refine nx_nil ?_
    all_goals refine kp_code_normal ?_
    all_goals refine nx_seq ?_
    all_goals refine nx_seq ?_
    all_goals refine nx_region ?_
    all_goals (refine nx_op ?_; refine opw_yld (Yld.move rfl) rfl ?_)
    all_goals (refine nx_op ?_; refine opw_yld (Yld.move rfl) rfl ?_)
    all_goals (refine nx_op ?_; (refine opw_call rfl (sp130 (hT.mono (by simp +contextual)) _ (b := b) (hb := by intro y hy; simp only [wc, List.mem_singleton] at hy; subst hy; simp; first | exact ⟨rfl, rfl⟩ | exact Or.inl ⟨rfl, rfl⟩ | exact Or.inr (Or.inl ⟨rfl, rfl⟩))) inferInstance rfl ?_; rintro _ _ ⟨rfl, rfl⟩; simp only [List.nil_append]))
    all_goals (refine nx_op ?_; refine opw_yld (Yld.cmp rfl rfl rfl) rfl ?_)
    all_goals (refine nx_op ?_; refine opw_yld (Yld.move rfl) rfl ?_)
    all_goals (first | refine nx_guard_n rfl (by first | rfl | assumption) rfl ?_ | refine nx_guard_u rfl rfl ?_ | ((first | refine nx_guard_y rfl (by first | rfl | assumption) ?_ | refine nx_guard rfl rfl (fun hc => ?_) (fun hc => ?_)); all_goals (first | (refine opw_yld (Yld.move rfl) rfl ?_) | skip)))
    all_goals (first | refine nx_guard_n rfl (by first | rfl | assumption) rfl ?_ | refine nx_guard_u rfl rfl ?_ | ((first | refine nx_guard_y rfl (by first | rfl | assumption) ?_ | refine nx_guard rfl rfl (fun hc => ?_) (fun hc => ?_)); all_goals (first | (refine opw_yld (Yld.move rfl) rfl ?_) | skip)))
    all_goals (first | refine nx_guard_n rfl (by first | rfl | assumption) rfl ?_ | refine nx_guard_u rfl rfl ?_ | ((first | refine nx_guard_y rfl (by first | rfl | assumption) ?_ | refine nx_guard rfl rfl (fun hc => ?_) (fun hc => ?_)); all_goals (first | (refine opw_yld (Yld.move rfl) rfl ?_) | skip)))
    all_goals (first | refine nx_guard_n rfl (by first | rfl | assumption) rfl ?_ | refine nx_guard_u rfl rfl ?_ | ((first | refine nx_guard_y rfl (by first | rfl | assumption) ?_ | refine nx_guard rfl rfl (fun hc => ?_) (fun hc => ?_)); all_goals (first | ((first | refine opw_yld (Yld.pick_t rfl (by first | rfl | assumption) rfl) rfl ?_ | refine opw_yld (Yld.pick_f rfl (by first | rfl | assumption) rfl) rfl ?_)) | skip)))
    all_goals (refine nx_op ?_; (first | refine opw_yld (Yld.pick_t rfl (by first | rfl | assumption) rfl) rfl ?_ | refine opw_yld (Yld.pick_f rfl (by first | rfl | assumption) rfl) rfl ?_))
    all_goals refine nx_nil ?_
    all_goals refine kp_code_normal ?_
    all_goals (refine nx_cond rfl (fun hc => ?_) (fun hc => ?_))
    all_goals (first | (exact Bool.noConfusion (hc.symm.trans (by first | rfl | assumption) : true = false)) | (exact Bool.noConfusion (hc.symm.trans (by first | rfl | assumption) : false = true)) | (all_goals refine nx_seq ?_; all_goals refine nx_seq ?_; all_goals refine nx_region ?_; all_goals (refine nx_op ?_; refine opw_yld (Yld.move rfl) rfl ?_); all_goals (refine nx_op ?_; refine opw_yld (Yld.move rfl) rfl ?_); all_goals (refine nx_op ?_; (refine opw_call rfl (h131 _ (hT.mono (by simp +contextual))) inferInstance rfl ?_; rintro v B ⟨d', l', rfl, rfl, h1, h2⟩; simp only [List.cons_append, List.nil_append, wc, foV])); all_goals (refine nx_op ?_; refine opw_yld (Yld.move rfl) rfl ?_); all_goals (refine nx_op ?_; refine opw_yld (Yld.extract rfl rfl) rfl ?_); all_goals (refine nx_op ?_; refine opw_yld (Yld.extract rfl rfl) rfl ?_); all_goals (refine nx_op ?_; refine opw_storeAgg rfl rfl rfl (by simp [Value.oneCell']) ?_); all_goals (refine nx_op ?_; refine opw_yld (Yld.assign rfl) rfl ?_); all_goals refine nx_nil ?_; all_goals refine kp_code_normal ?_; all_goals refine nx_seq ?_; all_goals refine nx_region ?_; all_goals (refine nx_op ?_; refine opw_yld (Yld.move rfl) rfl ?_); all_goals (refine nx_op ?_; refine opw_yld (Yld.cmp rfl rfl rfl) rfl ?_); all_goals refine nx_nil ?_; all_goals refine kp_code_normal ?_; all_goals (refine nx_cond rfl (fun hc => ?_) (fun hc => ?_)); all_goals (first | (exact Bool.noConfusion (hc.symm.trans (by first | rfl | assumption) : true = false)) | (exact Bool.noConfusion (hc.symm.trans (by first | rfl | assumption) : false = true)) | (all_goals refine nx_seq ?_; all_goals refine nx_region ?_; all_goals (refine nx_op ?_; refine opw_yld (Yld.build rfl rfl) rfl ?_); all_goals (refine nx_op ?_; refine opw_yld (Yld.move rfl) rfl ?_); all_goals (refine nx_op ?_; refine opw_storeAgg rfl rfl rfl (by simp [Value.oneCell']) ?_); all_goals (refine nx_op ?_; refine opw_yld (Yld.assign rfl) rfl ?_); all_goals refine nx_nil ?_; all_goals refine kp_code_normal ?_; all_goals refine nx_ret ?_; all_goals refine kp_code_ret ?_; all_goals refine kp_code_ret ?_; all_goals (exact resC2 (by first | exact .inl rfl | exact .inr rfl) Tryd.results93 rfl rfl [wc b T.t d' l'] inferInstance ⟨d', l', rfl, by decide, rfl⟩)) | (all_goals refine nx_skip ?_)); all_goals refine kp_code_normal ?_; all_goals refine nx_seq ?_; all_goals refine nx_region ?_; all_goals (refine nx_op ?_; refine opw_yld (Yld.fieldAddr rfl) rfl ?_); all_goals (refine nx_op ?_; refine opw_yld (Yld.load rfl) rfl ?_); all_goals (refine nx_op ?_; refine opw_yld (Yld.cmp rfl rfl rfl) rfl ?_); all_goals (refine nx_op ?_; refine opw_yld (Yld.move rfl) rfl ?_); all_goals (first | refine nx_guard_n rfl (by first | rfl | assumption) rfl ?_ | refine nx_guard_u rfl rfl ?_ | ((first | refine nx_guard_y rfl (by first | rfl | assumption) ?_ | refine nx_guard rfl rfl (fun hc => ?_) (fun hc => ?_)); all_goals (first | (refine opw_yld (Yld.move rfl) rfl ?_) | skip))); all_goals (refine nx_op ?_; (first | refine opw_yld (Yld.pick_t rfl (by first | rfl | assumption) rfl) rfl ?_ | refine opw_yld (Yld.pick_f rfl (by first | rfl | assumption) rfl) rfl ?_)); all_goals refine nx_nil ?_; all_goals refine kp_code_normal ?_; all_goals (refine nx_cond rfl (fun hc => ?_) (fun hc => ?_)); all_goals (first | (exact Bool.noConfusion (hc.symm.trans (by first | rfl | assumption) : true = false)) | (exact Bool.noConfusion (hc.symm.trans (by first | rfl | assumption) : false = true)) | (all_goals refine nx_seq ?_; all_goals refine nx_region ?_; all_goals (refine nx_op ?_; refine opw_yld (Yld.build rfl rfl) rfl ?_); all_goals (refine nx_op ?_; refine opw_storeAgg rfl rfl rfl (by simp [Value.oneCell']) ?_); all_goals (refine nx_op ?_; refine opw_yld (Yld.assign rfl) rfl ?_); all_goals refine nx_nil ?_; all_goals refine kp_code_normal ?_; all_goals refine nx_ret ?_; all_goals refine kp_code_ret ?_; all_goals (exact resC2 (by first | exact .inl rfl | exact .inr rfl) Tryd.results93 rfl rfl [wc b T.t d' l'] inferInstance ⟨d', l', rfl, by decide, rfl⟩)) | (all_goals refine nx_skip ?_))) | (all_goals refine nx_skip ?_))
    all_goals refine kp_code_normal ?_
    all_goals refine nx_seq ?_
    all_goals refine nx_seq ?_
    all_goals refine nx_region ?_
    all_goals (refine nx_op ?_; refine opw_yld (Yld.move rfl) rfl ?_)
    all_goals (refine nx_op ?_; refine opw_yld (Yld.move rfl) rfl ?_)
    all_goals (first | refine nx_guard_n rfl (by first | rfl | assumption) rfl ?_ | refine nx_guard_u rfl rfl ?_ | ((first | refine nx_guard_y rfl (by first | rfl | assumption) ?_ | refine nx_guard rfl rfl (fun hc => ?_) (fun hc => ?_)); all_goals (first | (refine opw_yld (Yld.move rfl) rfl ?_) | skip)))
    all_goals (first | refine nx_guard_n rfl (by first | rfl | assumption) rfl ?_ | refine nx_guard_u rfl rfl ?_ | ((first | refine nx_guard_y rfl (by first | rfl | assumption) ?_ | refine nx_guard rfl rfl (fun hc => ?_) (fun hc => ?_)); all_goals (first | (refine opw_yld (Yld.fieldAddr rfl) rfl ?_) | skip)))
    all_goals (first | refine nx_guard_n rfl (by first | rfl | assumption) rfl ?_ | refine nx_guard_u rfl rfl ?_ | ((first | refine nx_guard_y rfl (by first | rfl | assumption) ?_ | refine nx_guard rfl rfl (fun hc => ?_) (fun hc => ?_)); all_goals (first | (refine opw_yld (Yld.load rfl) rfl ?_) | skip)))
    all_goals (first | refine nx_guard_n rfl (by first | rfl | assumption) rfl ?_ | refine nx_guard_u rfl rfl ?_ | ((first | refine nx_guard_y rfl (by first | rfl | assumption) ?_ | refine nx_guard rfl rfl (fun hc => ?_) (fun hc => ?_)); all_goals (first | ((refine opw_call rfl (sp130 (hT.mono (by simp +contextual)) _ (b := b) (hb := by intro y hy; simp only [wc, List.mem_singleton] at hy; subst hy; simp; first | exact ⟨rfl, rfl⟩ | exact Or.inl ⟨rfl, rfl⟩ | exact Or.inr (Or.inl ⟨rfl, rfl⟩))) inferInstance rfl ?_; rintro _ _ ⟨rfl, rfl⟩; simp only [List.nil_append])) | skip)))
    all_goals (first | refine nx_guard_n rfl (by first | rfl | assumption) rfl ?_ | refine nx_guard_u rfl rfl ?_ | ((first | refine nx_guard_y rfl (by first | rfl | assumption) ?_ | refine nx_guard rfl rfl (fun hc => ?_) (fun hc => ?_)); all_goals (first | (refine opw_yld (Yld.cmp rfl rfl rfl) rfl ?_) | skip)))
    all_goals (refine nx_op ?_; (first | refine opw_yld (Yld.pick_t rfl (by first | rfl | assumption) rfl) rfl ?_ | refine opw_yld (Yld.pick_f rfl (by first | rfl | assumption) rfl) rfl ?_))
    all_goals refine nx_nil ?_
    all_goals refine kp_code_normal ?_
    all_goals (refine nx_cond rfl (fun hc => ?_) (fun hc => ?_))
    all_goals (first | (exact Bool.noConfusion (hc.symm.trans (by first | rfl | assumption) : true = false)) | (exact Bool.noConfusion (hc.symm.trans (by first | rfl | assumption) : false = true)) | (all_goals refine nx_seq ?_; all_goals refine nx_region ?_; all_goals (refine nx_op ?_; refine opw_yld (Yld.build (cs := [.int .i64 0, .string ⟨#[]⟩, .int .i64 0]) rfl rfl) rfl ?_); all_goals (refine nx_op ?_; refine opw_storeAgg rfl rfl rfl (by simp [Value.oneCell']) ?_); all_goals (refine nx_op ?_; refine opw_yld (Yld.assign rfl) rfl ?_); all_goals refine nx_nil ?_; all_goals refine kp_code_normal ?_; all_goals refine nx_ret ?_; all_goals refine kp_code_ret ?_; all_goals (exact resC2 (by first | exact .inl rfl | exact .inr rfl) Tryd.results93 rfl rfl [wc b T.t d' l'] inferInstance ⟨d', l', rfl, by decide, rfl⟩)) | (all_goals refine nx_skip ?_))
    all_goals refine kp_code_normal ?_
    all_goals refine nx_seq ?_
    all_goals refine nx_region ?_
    all_goals (refine nx_op ?_; refine opw_yld (Yld.loadAgg rfl) rfl ?_)
    all_goals (refine nx_op ?_; refine opw_storeAgg rfl rfl rfl (by simp [Value.oneCell']) ?_)
    all_goals (refine nx_op ?_; refine opw_yld (Yld.assign rfl) rfl ?_)
    all_goals refine nx_nil ?_
    all_goals refine kp_code_normal ?_
    all_goals refine nx_ret ?_
    all_goals (exact resC2 (by first | exact .inl rfl | exact .inr rfl) Tryd.results93 rfl rfl [wc b T.t d' l'] inferInstance ⟨d', l', rfl, by decide, rfl⟩)
end
end Go.Proofs.YtdobndclhbkooaaDoor
