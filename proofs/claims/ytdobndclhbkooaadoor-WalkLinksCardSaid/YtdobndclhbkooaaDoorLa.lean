/- What the laws of the walker begin with. Conditions: none. -/
import Derived.Test.YtdobndclhbkooaaDoorWk6
namespace Go.Proofs.YtdobndclhbkooaaDoor
open Go Go.SL
set_option maxRecDepth 100000
set_option linter.unusedVariables false

def ansItems : List ItemR := [⟨⟨#[47, 97]⟩, 2, 0, [], .slice none 0 0⟩]
theorem ans_new : (newA ansItems).1 = 0 := by decide
theorem ans_walk : walkA (newA ansItems).2 1 [97, 47, 98] true = ((2, [98], 0), 0) := by decide

theorem ItemR_ro (F : Chunk) : Ro F (.slice none 0 0) ([] : List UInt8).length (bytesV []) := .inl ⟨rfl, rfl, rfl⟩
/-- answers. -/
theorem sp11 (F : Chunk) : Sp Tryd.prog 11 [] F [] (fun v B => v = .bool true ∧ B = []) := by
  refine sp_enter Tryd.func11 rfl Tryd.ntmps11 rfl (fun g => ?_)
  simp only [argFr, List.nil_append, Nat.reduceAdd]
  have h1 := ans_new
  have h2 := ans_walk
  all_goals (refine nx_seq ?_; refine nx_region ?_; refine nx_op ?_; refine opw_yld (Yld.assign rfl) rfl ?_; refine nx_nil ?_; refine kp_code_normal ?_; refine nx_seq ?_; refine nx_region ?_; refine nx_op ?_; refine opw_yld (Yld.build (cs := [.string ⟨#[47, 97]⟩, .int .i64 2, .int .i64 0, .slice none 0 0]) rfl rfl) rfl ?_)
  all_goals (refine nx_op ?_; refine opw_alc (Alc.buildSlice (cs := [.string ⟨#[47, 97]⟩, .int .i64 2, .int .i64 0, .slice none 0 0]) rfl (by rfl) (by rfl) (by rfl) (by rfl)) rfl (fun b7 => ?_))
  all_goals (refine nx_op ?_; (refine opw_call rfl (sp10 (l := ansItems) (.inr ⟨b7, 0, 1, [.string ⟨#[47, 97]⟩, .int .i64 2, .int .i64 0,   .slice none 0 0], 26, (0, 0), rfl, Nat.le_refl _, by simp, rfl⟩) (by intro i hi; simp [ansItems] at hi; subst hi; exact ItemR_ro _) (by decide)) inferInstance rfl ?_; rintro v B (⟨ha, _⟩ | ⟨_, T, hT, hN, hA, rfl, rfl⟩); (exact absurd h1 ha); simp only [List.cons_append, List.nil_append]))
  all_goals (refine nx_op ?_; refine opw_yld (Yld.move rfl) rfl ?_; refine nx_op ?_; refine opw_yld (Yld.extract rfl rfl) rfl ?_; refine nx_op ?_; refine opw_yld (Yld.extract rfl rfl) rfl ?_; refine nx_op ?_; refine opw_yld (Yld.assign rfl) rfl ?_; refine nx_op ?_; refine opw_yld (Yld.assign rfl) rfl ?_; refine nx_nil ?_; refine kp_code_normal ?_; refine nx_seq ?_; refine nx_seq ?_; refine nx_region ?_; refine nx_op ?_; refine opw_yld (Yld.move rfl) rfl ?_; refine nx_op ?_; refine opw_yld (Yld.cmp rfl rfl rfl) rfl ?_; refine nx_op ?_; refine opw_yld (Yld.move rfl) rfl ?_)
  all_goals (first | refine nx_guard_n rfl (by first | rfl | assumption) rfl ?_ | refine nx_guard_u rfl rfl ?_ | ((first | refine nx_guard_y rfl (by first | rfl | assumption) ?_ | refine nx_guard rfl rfl (fun hc => ?_) (fun hc => ?_)); all_goals (first | (refine opw_yld (Yld.move rfl) rfl ?_) | skip)))
  all_goals (first | refine nx_guard_n rfl (by first | rfl | assumption) rfl ?_ | refine nx_guard_u rfl rfl ?_ | ((first | refine nx_guard_y rfl (by first | rfl | assumption) ?_ | refine nx_guard rfl rfl (fun hc => ?_) (fun hc => ?_)); all_goals (first | (refine opw_yld (Yld.eqNil rfl rfl) rfl ?_) | skip)))
  all_goals (refine nx_op ?_; (first | refine opw_yld (Yld.pick_t rfl (by first | rfl | assumption) rfl) rfl ?_ | refine opw_yld (Yld.pick_f rfl (by first | rfl | assumption) rfl) rfl ?_))
  all_goals (refine nx_nil ?_; refine kp_code_normal ?_)
  all_goals (refine nx_cond rfl (fun hc => ?_) (fun hc => ?_))
  all_goals (first | (exact Bool.noConfusion (hc.symm.trans (by first | rfl | assumption) : true = false)) | (exact Bool.noConfusion (hc.symm.trans (by first | rfl | assumption) : false = true)) | (all_goals (refine nx_seq ?_; refine nx_region ?_; refine nx_op ?_; refine opw_yld (Yld.assign rfl) rfl ?_; refine nx_nil ?_; refine kp_code_normal ?_; refine nx_ret ?_; refine kp_code_ret ?_); all_goals (exact res1 (by first | exact .inl rfl | exact .inr rfl) Tryd.results11 rfl [] inferInstance ⟨rfl, rfl⟩)) | (all_goals refine nx_skip ?_))
  all_goals (refine kp_code_normal ?_; refine nx_seq ?_; refine nx_region ?_; refine nx_op ?_; refine opw_yld (Yld.move rfl) rfl ?_)
  all_goals (refine nx_op ?_; (refine opw_call rfl (sp12 (InT.of hT (by simp +contextual)) 1 ⟨#[97, 47, 98]⟩ true) inferInstance rfl ?_; rintro _ _ ⟨rfl, rfl⟩; simp only [List.nil_append, hA]; rw [show bs ⟨#[97, 47, 98]⟩ = [97, 47, 98] from rfl, h2]; simp only [walkV, foV]))
  all_goals (refine nx_op ?_; refine opw_yld (Yld.move rfl) rfl ?_; refine nx_op ?_; refine opw_yld (Yld.extract rfl rfl) rfl ?_; refine nx_op ?_; refine opw_yld (Yld.extract rfl rfl) rfl ?_)
  all_goals (refine nx_op ?_; refine opw_alc Alc.alloc rfl (fun b3 => ?_))
  all_goals (refine nx_op ?_; refine opw_storeAgg rfl rfl rfl (by simp [Value.oneCell']) ?_)
  all_goals (refine nx_op ?_; refine opw_yld (Yld.assign rfl) rfl ?_; refine nx_nil ?_; refine kp_code_normal ?_; refine nx_seq ?_; refine nx_region ?_; refine nx_op ?_; refine opw_yld (Yld.move rfl) rfl ?_; refine nx_op ?_; refine opw_yld (Yld.cmp rfl rfl rfl) rfl ?_; refine nx_op ?_; refine opw_yld (Yld.move rfl) rfl ?_)
  all_goals (first | refine nx_guard_n rfl (by first | rfl | assumption) rfl ?_ | refine nx_guard_u rfl rfl ?_ | ((first | refine nx_guard_y rfl (by first | rfl | assumption) ?_ | refine nx_guard rfl rfl (fun hc => ?_) (fun hc => ?_)); all_goals (first | (refine opw_yld (Yld.fieldAddr rfl) rfl ?_) | skip)))
  all_goals (first | refine nx_guard_n rfl (by first | rfl | assumption) rfl ?_ | refine nx_guard_u rfl rfl ?_ | ((first | refine nx_guard_y rfl (by first | rfl | assumption) ?_ | refine nx_guard rfl rfl (fun hc => ?_) (fun hc => ?_)); all_goals (first | (refine opw_yld (Yld.load rfl) rfl ?_) | skip)))
  all_goals (first | refine nx_guard_n rfl (by first | rfl | assumption) rfl ?_ | refine nx_guard_u rfl rfl ?_ | ((first | refine nx_guard_y rfl (by first | rfl | assumption) ?_ | refine nx_guard rfl rfl (fun hc => ?_) (fun hc => ?_)); all_goals (first | (refine opw_yld (Yld.cmp rfl rfl rfl) rfl ?_) | skip)))
  all_goals (refine nx_op ?_; (first | refine opw_yld (Yld.pick_t rfl (by first | rfl | assumption) rfl) rfl ?_ | refine opw_yld (Yld.pick_f rfl (by first | rfl | assumption) rfl) rfl ?_))
  all_goals (refine nx_op ?_; refine opw_yld (Yld.move rfl) rfl ?_)
  all_goals (first | refine nx_guard_n rfl (by first | rfl | assumption) rfl ?_ | refine nx_guard_u rfl rfl ?_ | ((first | refine nx_guard_y rfl (by first | rfl | assumption) ?_ | refine nx_guard rfl rfl (fun hc => ?_) (fun hc => ?_)); all_goals (first | (refine opw_yld (Yld.fieldAddr rfl) rfl ?_) | skip)))
  all_goals (first | refine nx_guard_n rfl (by first | rfl | assumption) rfl ?_ | refine nx_guard_u rfl rfl ?_ | ((first | refine nx_guard_y rfl (by first | rfl | assumption) ?_ | refine nx_guard rfl rfl (fun hc => ?_) (fun hc => ?_)); all_goals (first | (refine opw_yld (Yld.load rfl) rfl ?_) | skip)))
  all_goals (first | refine nx_guard_n rfl (by first | rfl | assumption) rfl ?_ | refine nx_guard_u rfl rfl ?_ | ((first | refine nx_guard_y rfl (by first | rfl | assumption) ?_ | refine nx_guard rfl rfl (fun hc => ?_) (fun hc => ?_)); all_goals (first | (refine opw_yld (Yld.eqS rfl rfl) rfl ?_) | skip)))
  all_goals (refine nx_op ?_; (first | refine opw_yld (Yld.pick_t rfl (by first | rfl | assumption) rfl) rfl ?_ | refine opw_yld (Yld.pick_f rfl (by first | rfl | assumption) rfl) rfl ?_))
  all_goals (refine nx_op ?_; refine opw_yld (Yld.move rfl) rfl ?_)
  all_goals (first | refine nx_guard_n rfl (by first | rfl | assumption) rfl ?_ | refine nx_guard_u rfl rfl ?_ | ((first | refine nx_guard_y rfl (by first | rfl | assumption) ?_ | refine nx_guard rfl rfl (fun hc => ?_) (fun hc => ?_)); all_goals (first | (refine opw_yld (Yld.fieldAddr rfl) rfl ?_) | skip)))
  all_goals (first | refine nx_guard_n rfl (by first | rfl | assumption) rfl ?_ | refine nx_guard_u rfl rfl ?_ | ((first | refine nx_guard_y rfl (by first | rfl | assumption) ?_ | refine nx_guard rfl rfl (fun hc => ?_) (fun hc => ?_)); all_goals (first | (refine opw_yld (Yld.load rfl) rfl ?_) | skip)))
  all_goals (first | refine nx_guard_n rfl (by first | rfl | assumption) rfl ?_ | refine nx_guard_u rfl rfl ?_ | ((first | refine nx_guard_y rfl (by first | rfl | assumption) ?_ | refine nx_guard rfl rfl (fun hc => ?_) (fun hc => ?_)); all_goals (first | (refine opw_yld (Yld.cmp rfl rfl rfl) rfl ?_) | skip)))
  all_goals (refine nx_op ?_; (first | refine opw_yld (Yld.pick_t rfl (by first | rfl | assumption) rfl) rfl ?_ | refine opw_yld (Yld.pick_f rfl (by first | rfl | assumption) rfl) rfl ?_))
  all_goals (refine nx_op ?_; refine opw_yld (Yld.assign rfl) rfl ?_; refine nx_nil ?_; refine kp_code_normal ?_; refine nx_ret ?_)
  all_goals (exact res1 (by first | exact .inl rfl | exact .inr rfl) Tryd.results11 rfl [] inferInstance ⟨rfl, rfl⟩)
end Go.Proofs.YtdobndclhbkooaaDoor
