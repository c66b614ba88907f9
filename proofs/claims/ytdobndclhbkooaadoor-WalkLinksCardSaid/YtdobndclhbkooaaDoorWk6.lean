/- Walk. Conditions: the tree lies in the memory that is kept. -/
import Derived.Test.YtdobndclhbkooaaDoorWk5
namespace Go.Proofs.YtdobndclhbkooaaDoor
open Go Go.SL
set_option maxRecDepth 100000
set_option linter.unusedVariables false

theorem recOk (T : Tr) : ∀ N, RecOk T N (walkN (abs T.S) N)
  | 0 => fun _ _ _ _ _ _ _ h _ => absurd h (by omega)
  | N + 1 => sp41b (recOk T N)

/-- What Walk hands back. -/
def walkA (A : Fs) (n : Int) (path : List UInt8) (fol : Bool) : Fo × Int := match walkN A 41 n path fol 40 with
  | .error e => ((0, [], 0), e)
  | .ok (f, _) => (f, 0)
def walkV (p : Fo × Int) : Value := .tuple #[foV p.1, .int .i64 p.2]

section
variable {F : Chunk} {T : Tr}
theorem sp12 (hT : InT F T) (n : Int) (path : ByteArray) (fol : Bool) : Sp Tryd.prog 12 [.pointer (some ⟨T.t, 0, none⟩), .int .i64 n, .string path, .bool fol] F [] (fun v B => v = walkV (walkA (abs T.S) n (bs path) fol) ∧ B = []) := by
  have h41 : ∀ F', InT F' T → ∀ b, Sp Tryd.prog 41 [.pointer (some ⟨b, 0, none⟩), .string path, .bool fol] F' [wc b T.t n 0] (WPost b T.t 40 (walkN (abs T.S) 41 n (bs path) fol 40)) := fun F' h b => recOk T 41 F' b n path fol 40 h (by omega) (by omega)
  unfold walkA
  generalize walkN (abs T.S) 41 n (bs path) fol 40 = r at h41
  refine sp_enter Tryd.func12 rfl Tryd.ntmps12 rfl (fun g => ?_)
  simp only [argFr, List.nil_append, Nat.reduceAdd]
  rcases r with e | ⟨⟨f1, f2, f3⟩, k⟩
  · dsimp only
    all_goals (refine nx_seq ?_; refine nx_region ?_)
    all_goals (refine nx_op ?_; refine opw_alc Alc.alloc rfl (fun b8 => ?_))
    all_goals (refine nx_op ?_; refine opw_yld (Yld.assign rfl) rfl ?_; refine nx_nil ?_; refine kp_code_normal ?_; refine nx_seq ?_; refine nx_region ?_; refine nx_op ?_; refine opw_yld (Yld.move rfl) rfl ?_; refine nx_op ?_; refine opw_yld (Yld.move rfl) rfl ?_; refine nx_op ?_; refine opw_yld (Yld.build (cs := [.pointer (some ⟨T.t, 0, none⟩), .int .i64 n, .int .i64 0]) rfl rfl) rfl ?_)
    all_goals (refine nx_op ?_; refine opw_alc (Alc.boxAgg rfl) rfl (fun b14 => ?_))
    all_goals (refine nx_op ?_; refine opw_yld (Yld.assign rfl) rfl ?_; refine nx_nil ?_; refine kp_code_normal ?_; refine nx_seq ?_; refine nx_region ?_; refine nx_op ?_; refine opw_yld (Yld.move rfl) rfl ?_; refine nx_op ?_; refine opw_yld (Yld.move rfl) rfl ?_; refine nx_op ?_; refine opw_yld (Yld.move rfl) rfl ?_)
    all_goals (refine nx_op ?_; (refine opw_call rfl (h41 _ (hT.mono (by simp +contextual)) _) inferInstance rfl ?_; rintro v B ⟨d', l', rfl, h1, rfl⟩; simp only [List.cons_append, List.nil_append, wc, foZ]))
    all_goals (refine nx_op ?_; refine opw_yld (Yld.extract rfl rfl) rfl ?_; refine nx_op ?_; refine opw_yld (Yld.extract rfl rfl) rfl ?_)
    all_goals (refine nx_op ?_; refine opw_storeAgg rfl rfl rfl (by simp [Value.oneCell']) ?_)
    all_goals (refine nx_op ?_; refine opw_yld (Yld.assign rfl) rfl ?_; refine nx_nil ?_; refine kp_code_normal ?_; refine nx_ret ?_)
    all_goals (exact resC2 (by first | exact .inl rfl | exact .inr rfl) Tryd.results12 rfl rfl [] inferInstance ⟨rfl, rfl⟩)
  · dsimp only
    all_goals (refine nx_seq ?_; refine nx_region ?_)
    all_goals (refine nx_op ?_; refine opw_alc Alc.alloc rfl (fun b8 => ?_))
    all_goals (refine nx_op ?_; refine opw_yld (Yld.assign rfl) rfl ?_; refine nx_nil ?_; refine kp_code_normal ?_; refine nx_seq ?_; refine nx_region ?_; refine nx_op ?_; refine opw_yld (Yld.move rfl) rfl ?_; refine nx_op ?_; refine opw_yld (Yld.move rfl) rfl ?_; refine nx_op ?_; refine opw_yld (Yld.build (cs := [.pointer (some ⟨T.t, 0, none⟩), .int .i64 n, .int .i64 0]) rfl rfl) rfl ?_)
    all_goals (refine nx_op ?_; refine opw_alc (Alc.boxAgg rfl) rfl (fun b14 => ?_))
    all_goals (refine nx_op ?_; refine opw_yld (Yld.assign rfl) rfl ?_; refine nx_nil ?_; refine kp_code_normal ?_; refine nx_seq ?_; refine nx_region ?_; refine nx_op ?_; refine opw_yld (Yld.move rfl) rfl ?_; refine nx_op ?_; refine opw_yld (Yld.move rfl) rfl ?_; refine nx_op ?_; refine opw_yld (Yld.move rfl) rfl ?_)
    all_goals (refine nx_op ?_; (refine opw_call rfl (h41 _ (hT.mono (by simp +contextual)) _) inferInstance rfl ?_; rintro v B ⟨d', l', rfl, rfl, h1, h2⟩; simp only [List.cons_append, List.nil_append, wc, foV]))
    all_goals (refine nx_op ?_; refine opw_yld (Yld.extract rfl rfl) rfl ?_; refine nx_op ?_; refine opw_yld (Yld.extract rfl rfl) rfl ?_)
    all_goals (refine nx_op ?_; refine opw_storeAgg rfl rfl rfl (by simp [Value.oneCell']) ?_)
    all_goals (refine nx_op ?_; refine opw_yld (Yld.assign rfl) rfl ?_; refine nx_nil ?_; refine kp_code_normal ?_; refine nx_ret ?_)
    all_goals (exact resC2 (by first | exact .inl rfl | exact .inr rfl) Tryd.results12 rfl rfl [] inferInstance ⟨rfl, rfl⟩)
end
end Go.Proofs.YtdobndclhbkooaaDoor
