/- The names of a path. Conditions: the path is less than 2^31 bytes long. -/
import Derived.Test.YtdobndclhbkooaaDoorWk
namespace Go.Proofs.YtdobndclhbkooaaDoor
open Go Go.SL
set_option maxRecDepth 100000
set_option linter.unusedVariables false

def namesB (s : List UInt8) : List (List UInt8) := (splitB 47 s).filter fun p => !(p == [])
def namesS (l : List ByteArray) : List ByteArray := l.filter fun p => !(bs p == [])
theorem namesS_bs (l : List ByteArray) : (namesS l).map bs = (l.map bs).filter fun p => !(p == []) := by
  induction l with
  | nil => rfl
  | cons a l ih =>
    simp only [namesS, List.filter_cons, List.map_cons] at ih ⊢
    cases h : (bs a == []) <;> simp only [Bool.not_false, Bool.not_true, Bool.false_eq_true, if_false, if_true, List.map_cons, ih]
def NamesPost (s : ByteArray) (v : Value) (B : List Chunk) : Prop :=
  ∃ (sl : Value) (D : List ByteArray), v = .tuple #[sl, .bool (hasSuf (bs s) [47])] ∧ Own 9 1 sl D.length (D.map Value.string) B.flatten ∧ D.map bs = namesB (bs s)

section
theorem sp91 (s : ByteArray) (F : Chunk) (hs : s.size < 100000000) : Sp Tryd.prog 91 [.string s] F [] (NamesPost s) := by
  refine sp_enter Tryd.func91 rfl Tryd.ntmps91 rfl (fun g => ?_)
  simp only [argFr, List.nil_append, Nat.reduceAdd]
  all_goals (refine nx_seq ?_; refine nx_region ?_; refine nx_op ?_; refine opw_yld (Yld.assign rfl) rfl ?_; refine nx_op ?_; refine opw_yld (Yld.assign rfl) rfl ?_; refine nx_nil ?_; refine kp_code_normal ?_; refine nx_seq ?_; refine nx_seq ?_; refine nx_region ?_; refine nx_op ?_; refine opw_yld (Yld.move rfl) rfl ?_)
  all_goals (refine nx_op ?_; (refine opw_call rfl (sp90 _ _ _ (by omega)) inferInstance rfl ?_; rintro _ _ ⟨bp, ps, rfl, rfl, hps⟩; simp only [List.cons_append, List.nil_append]))
  all_goals (refine nx_op ?_; refine opw_yld (Yld.lenSlice rfl) rfl ?_; refine nx_op ?_; refine opw_yld (Yld.move rfl) rfl ?_; refine nx_nil ?_; refine kp_code_normal ?_; refine nx_block ?_)
  have hpl : ps.length ≤ 100000000 := by
    have h3 := splitB_len 47 (bs s)
    have h4 := List.count_le_length (a := 47) (l := bs s)
    rw [← hps] at h3
    rw [bs_len] at h4
    rw [List.length_map] at h3
    omega
  refine Nx.flat [[], [(bp, .cells (ps.map Value.string).toArray 9 (0, 0))], F] (by simp) ?_
  refine nx_loop (fun fr L m => ∃ (i : Nat) (v : Value) (c : Chunk), i ≤ ps.length ∧ m = ps.length - i ∧ Own 9 1 v (namesS (ps.take i)).length ((namesS (ps.take i)).map Value.string) c ∧
      fr = [(0, .string s), (2, v), (7, .slice (some ⟨bp, 0, none⟩) ps.length ps.length), (8, .int .i64 ps.length), (9, .int .i64 i)] ∧
      L = [c, [(bp, .cells (ps.map Value.string).toArray 9 (0, 0))], F])
    (L' := [[], [(bp, .cells (ps.map Value.string).toArray 9 (0, 0))], F]) ⟨0, .slice none 0 0, [], by omega, rfl, by simpa [namesS] using Own.nil 9 1, rfl, rfl⟩ (by repeat' (first | exact .nil | refine .cons rfl ?_)) inferInstance ?_
  rintro fr L m ⟨i, v, c, hi, rfl, ho, rfl, rfl⟩
  obtain ⟨va, vcap, rfl⟩ := Own_slice ho
  by_cases hlt : i < ps.length
  case neg =>
    have hb3 : decide ((i : Int) < (ps.length : Int)) = false := by simp; omega
    have htk : ps.take i = ps := List.take_of_length_le (by omega)
    rw [htk] at ho ⊢
    all_goals (refine nx_seq ?_; refine nx_region ?_; refine nx_op ?_; refine opw_yld (Yld.cmp rfl rfl rfl) rfl ?_; refine nx_nil ?_; refine kp_code_normal ?_; refine nx_seq ?_)
    all_goals (refine nx_cond rfl (fun hc => ?_) (fun hc => ?_))
    all_goals (first | (exact Bool.noConfusion (hc.symm.trans (by first | rfl | assumption) : true = false)) | (exact Bool.noConfusion (hc.symm.trans (by first | rfl | assumption) : false = true)) | (all_goals refine nx_skip ?_) | (all_goals (refine nx_exit ?_; refine kp_code_exit ?_; refine kp_loop_exit ?_; refine kp_blk_exit rfl ?_; refine kp_code_normal ?_; refine nx_seq ?_; refine nx_region ?_; refine nx_op ?_; refine opw_yld (Yld.move rfl) rfl ?_; refine nx_op ?_; refine opw_yld (Yld.move rfl) rfl ?_); all_goals (refine nx_op ?_; (refine opw_call rfl (sp129 _ _ _ (by omega)) inferInstance rfl ?_; rintro _ _ ⟨rfl, rfl⟩; simp only [List.nil_append])); all_goals (refine nx_op ?_; refine opw_yld (Yld.assign rfl) rfl ?_; refine nx_op ?_; refine opw_yld (Yld.assign rfl) rfl ?_; refine nx_nil ?_; refine kp_code_normal ?_; refine nx_ret ?_); all_goals (exact res2 (by first | exact .inl rfl | exact .inr rfl) Tryd.results91 rfl rfl [c] inferInstance ⟨_, _, rfl, by simpa using ho, by rw [namesS_bs, hps]; rfl⟩)))
    all_goals (refine kp_code_normal ?_; refine nx_seq ?_; refine nx_block ?_; refine nx_seq ?_; refine nx_region ?_; refine nx_op ?_; refine opw_yld (Yld.indexAddr rfl rfl (by omega)) rfl ?_; refine nx_op ?_; refine opw_yld (Yld.load rfl) rfl ?_; refine nx_op ?_; refine opw_yld (Yld.assign rfl) rfl ?_; refine nx_nil ?_; refine kp_code_normal ?_; refine nx_seq ?_; refine nx_region ?_; refine nx_op ?_; refine opw_yld (Yld.move rfl) rfl ?_; refine nx_op ?_; refine opw_yld (Yld.neS rfl rfl) rfl ?_; refine nx_nil ?_; refine kp_code_normal ?_)
    all_goals (refine nx_cond rfl (fun hc => ?_) (fun hc => ?_))
    all_goals (first | (exact Bool.noConfusion (hc.symm.trans (by first | rfl | assumption) : true = false)) | (exact Bool.noConfusion (hc.symm.trans (by first | rfl | assumption) : false = true)) | (all_goals (refine nx_region ?_; refine nx_op ?_; refine opw_yld (Yld.move rfl) rfl ?_; refine nx_op ?_; refine opw_yld (Yld.move rfl) rfl ?_); all_goals (refine nx_op ?_; refine opw_alc (Alc.buildSlice rfl (by rfl) (by rfl) (by rfl) (by rfl)) rfl (fun b17 => ?_)); all_goals (refine nx_op ?_; fail); all_goals (refine nx_op ?_; refine opw_yld (Yld.assign rfl) rfl ?_; refine nx_nil ?_)) | (all_goals refine nx_skip ?_))
    all_goals (refine kp_blk_normal ?_; refine kp_code_normal ?_; refine nx_region ?_)
    all_goals (refine nx_op ?_; (first | refine opw_yld (Yld.addI rfl rfl (by omega) (by omega)) rfl ?_ | refine opw_yld (Yld.add rfl rfl) rfl ?_))
    all_goals (refine nx_op ?_; refine opw_yld (Yld.move rfl) rfl ?_; refine nx_nil ?_)
  have hb3 : decide ((i : Int) < (ps.length : Int)) = true := by simp; omega
  have hn1 : NthL (ps.map Value.string) i (.string ps[i]) := ⟨by simp [List.getElem?_eq_getElem hlt]⟩
  have htk : ps.take (i + 1) = ps.take i ++ [ps[i]] := by simp
  have hnl : (namesS (ps.take i)).length ≤ i := by
    have h5 : (namesS (ps.take i)).length ≤ (ps.take i).length := List.length_filter_le _ _
    simp at h5; omega
  cases hek : (bs ps[i] == []) with
  | true =>
    have hd : namesS (ps.take (i + 1)) = namesS (ps.take i) := by rw [htk]; unfold namesS; rw [List.filter_append, List.filter_cons, hek]; simp
    have hb4 : (ps[i].data.toList != []) = false := by simp [bne]; simpa using hek
    all_goals (refine nx_seq ?_; refine nx_region ?_; refine nx_op ?_; refine opw_yld (Yld.cmp rfl rfl rfl) rfl ?_; refine nx_nil ?_; refine kp_code_normal ?_; refine nx_seq ?_)
    all_goals (refine nx_cond rfl (fun hc => ?_) (fun hc => ?_))
    all_goals (first | (exact Bool.noConfusion (hc.symm.trans (by first | rfl | assumption) : true = false)) | (exact Bool.noConfusion (hc.symm.trans (by first | rfl | assumption) : false = true)) | (all_goals refine nx_skip ?_) | (all_goals (refine nx_exit ?_; refine kp_code_exit ?_; refine kp_loop_exit ?_; refine kp_blk_exit rfl ?_; refine kp_code_normal ?_; refine nx_seq ?_; refine nx_region ?_; refine nx_op ?_; refine opw_yld (Yld.move rfl) rfl ?_; refine nx_op ?_; refine opw_yld (Yld.move rfl) rfl ?_); all_goals (refine nx_op ?_; (refine opw_call rfl (sp129 _ _ _ (by omega)) inferInstance rfl ?_; rintro _ _ ⟨rfl, rfl⟩; simp only [List.nil_append])); all_goals (refine nx_op ?_; refine opw_yld (Yld.assign rfl) rfl ?_; refine nx_op ?_; refine opw_yld (Yld.assign rfl) rfl ?_; refine nx_nil ?_; refine kp_code_normal ?_; refine nx_ret ?_); all_goals (fail)))
    all_goals (refine kp_code_normal ?_; refine nx_seq ?_; refine nx_block ?_; refine nx_seq ?_; refine nx_region ?_; refine nx_op ?_; refine opw_yld (Yld.indexAddr rfl rfl (by omega)) rfl ?_; refine nx_op ?_; refine opw_yld (Yld.load rfl) rfl ?_; refine nx_op ?_; refine opw_yld (Yld.assign rfl) rfl ?_; refine nx_nil ?_; refine kp_code_normal ?_; refine nx_seq ?_; refine nx_region ?_; refine nx_op ?_; refine opw_yld (Yld.move rfl) rfl ?_; refine nx_op ?_; refine opw_yld (Yld.neS rfl rfl) rfl ?_; refine nx_nil ?_; refine kp_code_normal ?_)
    all_goals (refine nx_cond rfl (fun hc => ?_) (fun hc => ?_))
    all_goals (first | (exact Bool.noConfusion (hc.symm.trans (by first | rfl | assumption) : true = false)) | (exact Bool.noConfusion (hc.symm.trans (by first | rfl | assumption) : false = true)) | (all_goals (refine nx_region ?_; refine nx_op ?_; refine opw_yld (Yld.move rfl) rfl ?_; refine nx_op ?_; refine opw_yld (Yld.move rfl) rfl ?_); all_goals (refine nx_op ?_; refine opw_alc (Alc.buildSlice rfl (by rfl) (by rfl) (by rfl) (by rfl)) rfl (fun b17 => ?_)); all_goals (refine nx_op ?_; fail); all_goals (refine nx_op ?_; refine opw_yld (Yld.assign rfl) rfl ?_; refine nx_nil ?_)) | (all_goals refine nx_skip ?_))
    all_goals (refine kp_blk_normal ?_; refine kp_code_normal ?_; refine nx_region ?_; refine nx_op ?_; refine opw_yld (Yld.addI rfl rfl (by omega) (by omega)) rfl ?_; refine nx_op ?_; refine opw_yld (Yld.move rfl) rfl ?_; refine nx_nil ?_)
    refine nx_round (m' := ps.length - (i + 1)) (L' := [c, [(bp, .cells (ps.map Value.string).toArray 9 (0, 0))], F]) ⟨i + 1, _, c, by omega, rfl, by rw [hd]; exact ho, rfl, rfl⟩ (by omega) (by repeat' (first | exact .nil | refine .cons rfl ?_)) inferInstance
  | false =>
    have hd : namesS (ps.take (i + 1)) = namesS (ps.take i) ++ [ps[i]] := by rw [htk]; unfold namesS; rw [List.filter_append, List.filter_cons, hek]; simp
    have hb4 : (ps[i].data.toList != []) = true := by simp [bne]; simpa using hek
    all_goals (refine nx_seq ?_; refine nx_region ?_; refine nx_op ?_; refine opw_yld (Yld.cmp rfl rfl rfl) rfl ?_; refine nx_nil ?_; refine kp_code_normal ?_; refine nx_seq ?_)
    all_goals (refine nx_cond rfl (fun hc => ?_) (fun hc => ?_))
    all_goals (first | (exact Bool.noConfusion (hc.symm.trans (by first | rfl | assumption) : true = false)) | (exact Bool.noConfusion (hc.symm.trans (by first | rfl | assumption) : false = true)) | (all_goals refine nx_skip ?_) | (all_goals (refine nx_exit ?_; refine kp_code_exit ?_; refine kp_loop_exit ?_; refine kp_blk_exit rfl ?_; refine kp_code_normal ?_; refine nx_seq ?_; refine nx_region ?_; refine nx_op ?_; refine opw_yld (Yld.move rfl) rfl ?_; refine nx_op ?_; refine opw_yld (Yld.move rfl) rfl ?_); all_goals (refine nx_op ?_; (refine opw_call rfl (sp129 _ _ _ (by omega)) inferInstance rfl ?_; rintro _ _ ⟨rfl, rfl⟩; simp only [List.nil_append])); all_goals (refine nx_op ?_; refine opw_yld (Yld.assign rfl) rfl ?_; refine nx_op ?_; refine opw_yld (Yld.assign rfl) rfl ?_; refine nx_nil ?_; refine kp_code_normal ?_; refine nx_ret ?_); all_goals (fail)))
    all_goals (refine kp_code_normal ?_; refine nx_seq ?_; refine nx_block ?_; refine nx_seq ?_; refine nx_region ?_; refine nx_op ?_; refine opw_yld (Yld.indexAddr rfl rfl (by omega)) rfl ?_; refine nx_op ?_; refine opw_yld (Yld.load rfl) rfl ?_; refine nx_op ?_; refine opw_yld (Yld.assign rfl) rfl ?_; refine nx_nil ?_; refine kp_code_normal ?_; refine nx_seq ?_; refine nx_region ?_; refine nx_op ?_; refine opw_yld (Yld.move rfl) rfl ?_; refine nx_op ?_; refine opw_yld (Yld.neS rfl rfl) rfl ?_; refine nx_nil ?_; refine kp_code_normal ?_)
    all_goals (refine nx_cond rfl (fun hc => ?_) (fun hc => ?_))
    all_goals (first | (exact Bool.noConfusion (hc.symm.trans (by first | rfl | assumption) : true = false)) | (exact Bool.noConfusion (hc.symm.trans (by first | rfl | assumption) : false = true)) | (all_goals (refine nx_region ?_; refine nx_op ?_; refine opw_yld (Yld.move rfl) rfl ?_; refine nx_op ?_; refine opw_yld (Yld.move rfl) rfl ?_); all_goals (refine nx_op ?_; refine opw_alc (Alc.buildSlice rfl (by rfl) (by rfl) (by rfl) (by rfl)) rfl (fun b17 => ?_)); all_goals (refine nx_op ?_; refine opw_append (e := 9) (sz := 1) (by' := 16) (z := [.string ⟨#[]⟩]) (k := 1) (ys := [.string ps[i]]) (c := c) rfl rfl rfl ho inferInstance rfl rfl (by simp [Value.oneCell']) (by omega) (by omega) rfl ?_; intro v2 c2 ho2 hn2); all_goals (refine nx_op ?_; refine opw_yld (Yld.assign rfl) rfl ?_; refine nx_nil ?_)) | (all_goals refine nx_skip ?_))
    all_goals (refine kp_blk_normal ?_; refine kp_code_normal ?_; refine nx_region ?_; refine nx_op ?_; refine opw_yld (Yld.addI rfl rfl (by omega) (by omega)) rfl ?_; refine nx_op ?_; refine opw_yld (Yld.move rfl) rfl ?_; refine nx_nil ?_)
    refine nx_round (m' := ps.length - (i + 1)) (L' := [c2, [(bp, .cells (ps.map Value.string).toArray 9 (0, 0))], F]) ⟨i + 1, v2, c2, by omega, rfl, by rw [hd]; simpa using ho2, rfl, rfl⟩ (by omega) (by repeat' (first | exact .nil | refine .cons rfl ?_)) inferInstance
end
end Go.Proofs.YtdobndclhbkooaaDoor
