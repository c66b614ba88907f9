/- The walker: a whole path. Conditions: the tree lies in the memory that is kept. -/
import Derived.Test.YtdobndclhbkooaaDoorWk4
namespace Go.Proofs.YtdobndclhbkooaaDoor
open Go Go.SL
set_option maxRecDepth 100000
set_option linter.unusedVariables false

def stepsA (A : Fs) (R : Rec) : Int → List (List UInt8) → Nat → Except Int (Int × Nat)
  | dir, [], k => .ok (dir, k)
  | dir, s :: r, k => match stepA A R dir s k with
    | .error e => .error e
    | .ok (d, k') => stepsA A R d r k'
def restA (A : Fs) (R : Rec) (dir : Int) (path : List UInt8) (fol : Bool) (fuel : Nat) : WR :=
  if (namesB path).any (fun s => decide (255 < s.length)) = true then .error 36
  else if namesB path = [] then .ok ((1, [46], 1), fuel)
  else match stepsA A R dir (namesB path).dropLast fuel with
    | .error e => .error e
    | .ok (d, k) => lastA A R d ((namesB path).getLastD []) fol (hasSuf path [47]) k
def bodyA (A : Fs) (R : Rec) : Rec := fun dir path fol fuel =>
  if path = [] then .error 2
  else if 4095 < path.length then .error 36
  else restA A R (if path.head? = some 47 then 1 else dir) path fol fuel
def walkN (A : Fs) : Nat → Rec
  | 0 => fun _ _ _ _ => .error 2
  | N + 1 => bodyA A (walkN A N)

theorem getLastD_eq {D : List (List UInt8)} {i : Nat} (h : i + 1 = D.length) : D.getLastD [] = D[i]'(by omega) := by
  have h2 : D.length - 1 = i := by omega
  rw [List.getLastD_eq_getLast?, List.getLast?_eq_getElem?, h2, List.getElem?_eq_getElem (by omega)]
  rfl
section
variable {T : Tr} {N : Nat} {R : Rec}
set_option maxHeartbeats 1000000 in
theorem sp41b (hR : RecOk T N R) : RecOk T (N + 1) (bodyA (abs T.S) R) := by
  intro F b dir path fol fuel hT hf hN
  refine sp_enter Tryd.func41 rfl Tryd.ntmps41 rfl (fun g => ?_)
  simp only [argFr, List.nil_append, List.cons_append, Nat.reduceAdd]
  simp only [wc]
  by_cases hp : bs path = []
  · have hb : (path.data.toList == []) = true := by simpa using hp
    have hr : bodyA (abs T.S) R dir (bs path) fol fuel = .error 2 := by simp [bodyA, hp]
    rw [hr]
    all_goals refine nx_seq ?_
    all_goals refine nx_region ?_
    all_goals (refine nx_op ?_; refine opw_alc Alc.alloc rfl (fun b6 => ?_))
    all_goals (refine nx_op ?_; refine opw_yld (Yld.assign rfl) rfl ?_)
    all_goals refine nx_nil ?_
    all_goals refine kp_code_normal ?_
    all_goals refine nx_seq ?_
    all_goals refine nx_seq ?_
    all_goals refine nx_region ?_
    all_goals (refine nx_op ?_; refine opw_yld (Yld.move rfl) rfl ?_)
    all_goals (refine nx_op ?_; refine opw_yld (Yld.eqS rfl rfl) rfl ?_)
    all_goals refine nx_nil ?_
    all_goals refine kp_code_normal ?_
    all_goals (refine nx_cond rfl (fun hc => ?_) (fun hc => ?_))
    all_goals (first | (exact Bool.noConfusion (hc.symm.trans (by first | rfl | assumption) : true = false)) | (exact Bool.noConfusion (hc.symm.trans (by first | rfl | assumption) : false = true)) | (all_goals refine nx_seq ?_; all_goals refine nx_region ?_; all_goals (refine nx_op ?_; refine opw_yld (Yld.build (cs := [.int .i64 0, .string ⟨#[]⟩, .int .i64 0]) rfl rfl) rfl ?_); all_goals (refine nx_op ?_; refine opw_storeAgg rfl rfl rfl (by simp [Value.oneCell']) ?_); all_goals (refine nx_op ?_; refine opw_yld (Yld.assign rfl) rfl ?_); all_goals refine nx_nil ?_; all_goals refine kp_code_normal ?_; all_goals refine nx_ret ?_; all_goals refine kp_code_ret ?_; all_goals (exact resC2 (by first | exact .inl rfl | exact .inr rfl) Tryd.results41 rfl rfl [wc b T.t dir (40 - (fuel : Int))] inferInstance ⟨dir, _, rfl, by decide, rfl⟩)) | (all_goals refine nx_skip ?_))
    all_goals refine kp_code_normal ?_
    all_goals refine nx_seq ?_
    all_goals refine nx_seq ?_
    all_goals refine nx_region ?_
    all_goals (refine nx_op ?_; refine opw_yld (Yld.move rfl) rfl ?_)
    all_goals (refine nx_op ?_; refine opw_yld (Yld.lenString rfl) rfl ?_)
    all_goals (refine nx_op ?_; refine opw_yld (Yld.cmp rfl rfl rfl) rfl ?_)
    all_goals refine nx_nil ?_
    all_goals refine kp_code_normal ?_
    all_goals (refine nx_cond rfl (fun hc => ?_) (fun hc => ?_))
    all_goals (first | (exact Bool.noConfusion (hc.symm.trans (by first | rfl | assumption) : true = false)) | (exact Bool.noConfusion (hc.symm.trans (by first | rfl | assumption) : false = true)) | (all_goals refine nx_seq ?_; all_goals refine nx_region ?_; all_goals (refine nx_op ?_; refine opw_yld (Yld.build rfl rfl) rfl ?_); all_goals (refine nx_op ?_; refine opw_storeAgg rfl rfl rfl (by simp [Value.oneCell']) ?_); all_goals (refine nx_op ?_; refine opw_yld (Yld.assign rfl) rfl ?_); all_goals refine nx_nil ?_; all_goals refine kp_code_normal ?_; all_goals refine nx_ret ?_; all_goals refine kp_code_ret ?_; all_goals (exact resC2 (by first | exact .inl rfl | exact .inr rfl) Tryd.results41 rfl rfl [wc b T.t dir (40 - (fuel : Int))] inferInstance ⟨dir, _, rfl, by decide, rfl⟩)) | (all_goals refine nx_skip ?_))
    all_goals refine kp_code_normal ?_
    all_goals refine nx_seq ?_
    all_goals refine nx_seq ?_
    all_goals refine nx_region ?_
    all_goals (refine nx_op ?_; refine opw_yld (Yld.move rfl) rfl ?_)
    all_goals (refine nx_op ?_; refine opw_yld (Yld.indexS rfl rfl (by assumption)) rfl ?_)
    all_goals (refine nx_op ?_; refine opw_yld (Yld.cmp rfl rfl rfl) rfl ?_)
    all_goals refine nx_nil ?_
    all_goals refine kp_code_normal ?_
    all_goals (refine nx_cond rfl (fun hc => ?_) (fun hc => ?_))
    all_goals (first | (exact Bool.noConfusion (hc.symm.trans (by first | rfl | assumption) : true = false)) | (exact Bool.noConfusion (hc.symm.trans (by first | rfl | assumption) : false = true)) | (all_goals refine nx_region ?_; all_goals (refine nx_op ?_; refine opw_yld (Yld.move rfl) rfl ?_); all_goals (refine nx_op ?_; refine opw_yld (Yld.nilCheck rfl) rfl ?_); all_goals (refine nx_op ?_; refine opw_yld (Yld.fieldAddr rfl) rfl ?_); all_goals (refine nx_op ?_; refine opw_store rfl rfl rfl ?_); all_goals refine nx_nil ?_) | (all_goals refine nx_skip ?_))
    all_goals refine kp_code_normal ?_
    all_goals refine nx_seq ?_
    all_goals refine nx_region ?_
    all_goals (refine nx_op ?_; refine opw_yld (Yld.move rfl) rfl ?_)
    all_goals (refine nx_op ?_; (fail))
    all_goals (refine nx_op ?_; refine opw_yld (Yld.move rfl) rfl ?_)
    all_goals (refine nx_op ?_; refine opw_yld (Yld.extract rfl rfl) rfl ?_)
    all_goals (refine nx_op ?_; refine opw_yld (Yld.extract rfl rfl) rfl ?_)
    all_goals (refine nx_op ?_; refine opw_yld (Yld.assign rfl) rfl ?_)
    all_goals (refine nx_op ?_; refine opw_yld (Yld.assign rfl) rfl ?_)
    all_goals refine nx_nil ?_
    all_goals refine kp_code_normal ?_
    all_goals refine nx_seq ?_
    all_goals refine nx_seq ?_
    all_goals refine nx_region ?_
    all_goals (refine nx_op ?_; refine opw_yld (Yld.move rfl) rfl ?_)
    all_goals (refine nx_op ?_; refine opw_yld (Yld.lenSlice rfl) rfl ?_)
    all_goals (refine nx_op ?_; refine opw_yld (Yld.move rfl) rfl ?_)
    all_goals refine nx_nil ?_
    all_goals refine kp_code_normal ?_
    all_goals refine nx_block ?_
  have hb : (path.data.toList == []) = false := by simpa using hp
  have hpl := bs_len path
  by_cases hlen : 4095 < path.size
  · have hb1 : decide ((4095 : Int) < (path.size : Int)) = true := by simp; omega
    have hr : bodyA (abs T.S) R dir (bs path) fol fuel = .error 36 := by unfold bodyA; rw [if_neg hp, if_pos (by omega)]
    rw [hr]
    all_goals refine nx_seq ?_
    all_goals refine nx_region ?_
    all_goals (refine nx_op ?_; refine opw_alc Alc.alloc rfl (fun b6 => ?_))
    all_goals (refine nx_op ?_; refine opw_yld (Yld.assign rfl) rfl ?_)
    all_goals refine nx_nil ?_
    all_goals refine kp_code_normal ?_
    all_goals refine nx_seq ?_
    all_goals refine nx_seq ?_
    all_goals refine nx_region ?_
    all_goals (refine nx_op ?_; refine opw_yld (Yld.move rfl) rfl ?_)
    all_goals (refine nx_op ?_; refine opw_yld (Yld.eqS rfl rfl) rfl ?_)
    all_goals refine nx_nil ?_
    all_goals refine kp_code_normal ?_
    all_goals (refine nx_cond rfl (fun hc => ?_) (fun hc => ?_))
    all_goals (first | (exact Bool.noConfusion (hc.symm.trans (by first | rfl | assumption) : true = false)) | (exact Bool.noConfusion (hc.symm.trans (by first | rfl | assumption) : false = true)) | (all_goals refine nx_seq ?_; all_goals refine nx_region ?_; all_goals (refine nx_op ?_; refine opw_yld (Yld.build rfl rfl) rfl ?_); all_goals (refine nx_op ?_; refine opw_storeAgg rfl rfl rfl (by simp [Value.oneCell']) ?_); all_goals (refine nx_op ?_; refine opw_yld (Yld.assign rfl) rfl ?_); all_goals refine nx_nil ?_; all_goals refine kp_code_normal ?_; all_goals refine nx_ret ?_; all_goals refine kp_code_ret ?_; all_goals (exact resC2 (by first | exact .inl rfl | exact .inr rfl) Tryd.results41 rfl rfl [wc b T.t dir (40 - (fuel : Int))] inferInstance ⟨dir, _, rfl, by decide, rfl⟩)) | (all_goals refine nx_skip ?_))
    all_goals refine kp_code_normal ?_
    all_goals refine nx_seq ?_
    all_goals refine nx_seq ?_
    all_goals refine nx_region ?_
    all_goals (refine nx_op ?_; refine opw_yld (Yld.move rfl) rfl ?_)
    all_goals (refine nx_op ?_; refine opw_yld (Yld.lenString rfl) rfl ?_)
    all_goals (refine nx_op ?_; refine opw_yld (Yld.cmp rfl rfl rfl) rfl ?_)
    all_goals refine nx_nil ?_
    all_goals refine kp_code_normal ?_
    all_goals (refine nx_cond rfl (fun hc => ?_) (fun hc => ?_))
    all_goals (first | (exact Bool.noConfusion (hc.symm.trans (by first | rfl | assumption) : true = false)) | (exact Bool.noConfusion (hc.symm.trans (by first | rfl | assumption) : false = true)) | (all_goals refine nx_seq ?_; all_goals refine nx_region ?_; all_goals (refine nx_op ?_; refine opw_yld (Yld.build (cs := [.int .i64 0, .string ⟨#[]⟩, .int .i64 0]) rfl rfl) rfl ?_); all_goals (refine nx_op ?_; refine opw_storeAgg rfl rfl rfl (by simp [Value.oneCell']) ?_); all_goals (refine nx_op ?_; refine opw_yld (Yld.assign rfl) rfl ?_); all_goals refine nx_nil ?_; all_goals refine kp_code_normal ?_; all_goals refine nx_ret ?_; all_goals refine kp_code_ret ?_; all_goals (exact resC2 (by first | exact .inl rfl | exact .inr rfl) Tryd.results41 rfl rfl [wc b T.t dir (40 - (fuel : Int))] inferInstance ⟨dir, _, rfl, by decide, rfl⟩)) | (all_goals refine nx_skip ?_))
    all_goals refine kp_code_normal ?_
    all_goals refine nx_seq ?_
    all_goals refine nx_seq ?_
    all_goals refine nx_region ?_
    all_goals (refine nx_op ?_; refine opw_yld (Yld.move rfl) rfl ?_)
    all_goals (refine nx_op ?_; refine opw_yld (Yld.indexS rfl rfl (by assumption)) rfl ?_)
    all_goals (refine nx_op ?_; refine opw_yld (Yld.cmp rfl rfl rfl) rfl ?_)
    all_goals refine nx_nil ?_
    all_goals refine kp_code_normal ?_
    all_goals (refine nx_cond rfl (fun hc => ?_) (fun hc => ?_))
    all_goals (first | (exact Bool.noConfusion (hc.symm.trans (by first | rfl | assumption) : true = false)) | (exact Bool.noConfusion (hc.symm.trans (by first | rfl | assumption) : false = true)) | (all_goals refine nx_region ?_; all_goals (refine nx_op ?_; refine opw_yld (Yld.move rfl) rfl ?_); all_goals (refine nx_op ?_; refine opw_yld (Yld.nilCheck rfl) rfl ?_); all_goals (refine nx_op ?_; refine opw_yld (Yld.fieldAddr rfl) rfl ?_); all_goals (refine nx_op ?_; refine opw_store rfl rfl rfl ?_); all_goals refine nx_nil ?_) | (all_goals refine nx_skip ?_))
    all_goals refine kp_code_normal ?_
    all_goals refine nx_seq ?_
    all_goals refine nx_region ?_
    all_goals (refine nx_op ?_; refine opw_yld (Yld.move rfl) rfl ?_)
    all_goals (refine nx_op ?_; (fail))
    all_goals (refine nx_op ?_; refine opw_yld (Yld.move rfl) rfl ?_)
    all_goals (refine nx_op ?_; refine opw_yld (Yld.extract rfl rfl) rfl ?_)
    all_goals (refine nx_op ?_; refine opw_yld (Yld.extract rfl rfl) rfl ?_)
    all_goals (refine nx_op ?_; refine opw_yld (Yld.assign rfl) rfl ?_)
    all_goals (refine nx_op ?_; refine opw_yld (Yld.assign rfl) rfl ?_)
    all_goals refine nx_nil ?_
    all_goals refine kp_code_normal ?_
    all_goals refine nx_seq ?_
    all_goals refine nx_seq ?_
    all_goals refine nx_region ?_
    all_goals (refine nx_op ?_; refine opw_yld (Yld.move rfl) rfl ?_)
    all_goals (refine nx_op ?_; refine opw_yld (Yld.lenSlice rfl) rfl ?_)
    all_goals (refine nx_op ?_; refine opw_yld (Yld.move rfl) rfl ?_)
    all_goals refine nx_nil ?_
    all_goals refine kp_code_normal ?_
    all_goals refine nx_block ?_
  have hb1 : decide ((4095 : Int) < (path.size : Int)) = false := by simp; omega
  obtain ⟨c0, hc0⟩ : ∃ c0, (bs path).head? = some c0 := by cases h : bs path with
    | nil => exact absurd h hp
    | cons c r => exact ⟨c, rfl⟩
  have hc1 : path.data.toList[0]? = some c0 := by rw [← hc0, ← List.head?_eq_getElem?]
  by_cases h47 : c0 = 47
  · have hb2 : (((c0.toNat : Nat) : Int) == 47) = true := by subst h47; rfl
    have hr : bodyA (abs T.S) R dir (bs path) fol fuel = restA (abs T.S) R 1 (bs path) fol fuel := by unfold bodyA; rw [if_neg hp, if_neg (by omega), if_pos (by rw [hc0, h47])]
    rw [hr]
    all_goals refine nx_seq ?_
    all_goals refine nx_region ?_
    all_goals (refine nx_op ?_; refine opw_alc Alc.alloc rfl (fun b6 => ?_))
    all_goals (refine nx_op ?_; refine opw_yld (Yld.assign rfl) rfl ?_)
    all_goals refine nx_nil ?_
    all_goals refine kp_code_normal ?_
    all_goals refine nx_seq ?_
    all_goals refine nx_seq ?_
    all_goals refine nx_region ?_
    all_goals (refine nx_op ?_; refine opw_yld (Yld.move rfl) rfl ?_)
    all_goals (refine nx_op ?_; refine opw_yld (Yld.eqS rfl rfl) rfl ?_)
    all_goals refine nx_nil ?_
    all_goals refine kp_code_normal ?_
    all_goals (refine nx_cond rfl (fun hc => ?_) (fun hc => ?_))
    all_goals (first | (exact Bool.noConfusion (hc.symm.trans (by first | rfl | assumption) : true = false)) | (exact Bool.noConfusion (hc.symm.trans (by first | rfl | assumption) : false = true)) | (all_goals refine nx_seq ?_; all_goals refine nx_region ?_; all_goals (refine nx_op ?_; refine opw_yld (Yld.build rfl rfl) rfl ?_); all_goals (refine nx_op ?_; refine opw_storeAgg rfl rfl rfl (by simp [Value.oneCell']) ?_); all_goals (refine nx_op ?_; refine opw_yld (Yld.assign rfl) rfl ?_); all_goals refine nx_nil ?_; all_goals refine kp_code_normal ?_; all_goals refine nx_ret ?_; all_goals refine kp_code_ret ?_) | (all_goals refine nx_skip ?_))
    all_goals refine kp_code_normal ?_
    all_goals refine nx_seq ?_
    all_goals refine nx_seq ?_
    all_goals refine nx_region ?_
    all_goals (refine nx_op ?_; refine opw_yld (Yld.move rfl) rfl ?_)
    all_goals (refine nx_op ?_; refine opw_yld (Yld.lenString rfl) rfl ?_)
    all_goals (refine nx_op ?_; refine opw_yld (Yld.cmp rfl rfl rfl) rfl ?_)
    all_goals refine nx_nil ?_
    all_goals refine kp_code_normal ?_
    all_goals (refine nx_cond rfl (fun hc => ?_) (fun hc => ?_))
    all_goals (first | (exact Bool.noConfusion (hc.symm.trans (by first | rfl | assumption) : true = false)) | (exact Bool.noConfusion (hc.symm.trans (by first | rfl | assumption) : false = true)) | (all_goals refine nx_seq ?_; all_goals refine nx_region ?_; all_goals (refine nx_op ?_; refine opw_yld (Yld.build rfl rfl) rfl ?_); all_goals (refine nx_op ?_; refine opw_storeAgg rfl rfl rfl (by simp [Value.oneCell']) ?_); all_goals (refine nx_op ?_; refine opw_yld (Yld.assign rfl) rfl ?_); all_goals refine nx_nil ?_; all_goals refine kp_code_normal ?_; all_goals refine nx_ret ?_; all_goals refine kp_code_ret ?_) | (all_goals refine nx_skip ?_))
    all_goals refine kp_code_normal ?_
    all_goals refine nx_seq ?_
    all_goals refine nx_seq ?_
    all_goals refine nx_region ?_
    all_goals (refine nx_op ?_; refine opw_yld (Yld.move rfl) rfl ?_)
    all_goals (refine nx_op ?_; refine opw_yld (Yld.indexS rfl rfl hc1) rfl ?_)
    all_goals (refine nx_op ?_; refine opw_yld (Yld.cmp rfl rfl rfl) rfl ?_)
    all_goals refine nx_nil ?_
    all_goals refine kp_code_normal ?_
    all_goals (refine nx_cond rfl (fun hc => ?_) (fun hc => ?_))
    all_goals (first | (exact Bool.noConfusion (hc.symm.trans (by first | rfl | assumption) : true = false)) | (exact Bool.noConfusion (hc.symm.trans (by first | rfl | assumption) : false = true)) | (all_goals refine nx_region ?_; all_goals (refine nx_op ?_; refine opw_yld (Yld.move rfl) rfl ?_); all_goals (refine nx_op ?_; refine opw_yld (Yld.nilCheck rfl) rfl ?_); all_goals (refine nx_op ?_; refine opw_yld (Yld.fieldAddr rfl) rfl ?_); all_goals (refine nx_op ?_; refine opw_store rfl rfl rfl ?_); all_goals refine nx_nil ?_) | (all_goals refine nx_skip ?_))
    all_goals refine kp_code_normal ?_
    all_goals refine nx_seq ?_
    all_goals refine nx_region ?_
    all_goals (refine nx_op ?_; refine opw_yld (Yld.move rfl) rfl ?_)
    all_goals (refine nx_op ?_; (refine opw_call rfl (sp91 path _ (by omega)) inferInstance rfl ?_; rintro _ B ⟨sl, D, rfl, hown, hD⟩; obtain ⟨sa, scap, rfl⟩ := Own_slice hown))
    all_goals (refine nx_op ?_; refine opw_yld (Yld.move rfl) rfl ?_)
    all_goals (refine nx_op ?_; refine opw_yld (Yld.extract rfl rfl) rfl ?_)
    all_goals (refine nx_op ?_; refine opw_yld (Yld.extract rfl rfl) rfl ?_)
    all_goals (refine nx_op ?_; refine opw_yld (Yld.assign rfl) rfl ?_)
    all_goals (refine nx_op ?_; refine opw_yld (Yld.assign rfl) rfl ?_)
    all_goals refine nx_nil ?_
    all_goals refine kp_code_normal ?_
    all_goals refine nx_seq ?_
    all_goals refine nx_seq ?_
    all_goals refine nx_region ?_
    all_goals (refine nx_op ?_; refine opw_yld (Yld.move rfl) rfl ?_)
    all_goals (refine nx_op ?_; refine opw_yld (Yld.lenSlice rfl) rfl ?_)
    all_goals (refine nx_op ?_; refine opw_yld (Yld.move rfl) rfl ?_)
    all_goals refine nx_nil ?_
    all_goals refine kp_code_normal ?_
    all_goals refine nx_block ?_
    refine Nx.flat [B.flatten, [(b6, .cells [.int .i64 0, .string ⟨#[]⟩, .int .i64 0].toArray 33 (0, 0))], [(b, .cells [.pointer (some ⟨T.t, 0, none⟩), .int .i64 1, .int .i64 (40 - (fuel : Int))].toArray 95 (0, 0))], F] (by simp) ?_
    generalize B.flatten = c at hown
    have hDl : D.length ≤ 100000000 := by
      have h3 := splitB_len 47 (bs path)
      have h4 := List.count_le_length (a := 47) (l := bs path)
      have h5 : (namesB (bs path)).length ≤ (splitB 47 (bs path)).length := List.length_filter_le _ _
      rw [← hD, List.length_map] at h5
      omega
    refine nx_loop (fun fr L m => ∃ i : Nat, i ≤ D.length ∧ m = D.length - i ∧ (∀ s ∈ D.take i, s.size ≤ 255) ∧
        fr = [(0, .pointer (some ⟨b, 0, none⟩)), (2, .bool fol), (6, .pointer (some ⟨b6, 0, none⟩)), (8, .slice sa D.length scap), (9, .bool (hasSuf (bs path) [47])), (33, .slice sa D.length scap), (34, .int .i64 D.length), (35, .int .i64 i)] ∧
        L = [c, [(b6, .cells [.int .i64 0, .string ⟨#[]⟩, .int .i64 0].toArray 33 (0, 0))], [(b, .cells [.pointer (some ⟨T.t, 0, none⟩), .int .i64 1, .int .i64 (40 - (fuel : Int))].toArray 95 (0, 0))], F])
      (L' := [c, [(b6, .cells [.int .i64 0, .string ⟨#[]⟩, .int .i64 0].toArray 33 (0, 0))], [(b, .cells [.pointer (some ⟨T.t, 0, none⟩), .int .i64 1, .int .i64 (40 - (fuel : Int))].toArray 95 (0, 0))], F]) ⟨0, by omega, rfl, by simp, rfl, rfl⟩ (by repeat' (first | exact .nil | refine .cons rfl ?_)) inferInstance ?_
    rintro fr L m ⟨i, hi, rfl, hsz, rfl, rfl⟩
    by_cases hlt : i < D.length
    case pos =>
      obtain ⟨bn, cap, tl, hev2, rfl, hcap⟩ := Own_some hown (by omega)
      cases hev2
      have hb3 : decide ((i : Int) < (D.length : Int)) = true := by simp; omega
      have hn1 : NthL (D.map Value.string ++ tl) i (.string D[i]) := ⟨by rw [List.getElem?_append_left (by simpa using hlt)]; simp [List.getElem?_eq_getElem hlt]⟩
      have hmem : bs D[i] ∈ namesB (bs path) := by rw [← hD]; exact List.mem_map_of_mem (List.getElem_mem hlt)
      by_cases h255 : 255 < D[i].size
      · have hb4 : decide ((255 : Int) < (D[i].size : Int)) = true := by simp; omega
        have hr2 : restA (abs T.S) R 1 (bs path) fol fuel = .error 36 := by
          unfold restA
          rw [if_pos (List.any_eq_true.2 ⟨_, hmem, by rw [bs_len]; simpa using h255⟩)]
        rw [hr2]
        all_goals refine nx_seq ?_
        all_goals refine nx_region ?_
        all_goals (refine nx_op ?_; refine opw_yld (Yld.cmp rfl rfl rfl) rfl ?_)
        all_goals refine nx_nil ?_
        all_goals refine kp_code_normal ?_
        all_goals refine nx_seq ?_
        all_goals (refine nx_cond rfl (fun hc => ?_) (fun hc => ?_))
        all_goals (first | (exact Bool.noConfusion (hc.symm.trans (by first | rfl | assumption) : true = false)) | (exact Bool.noConfusion (hc.symm.trans (by first | rfl | assumption) : false = true)) | (all_goals refine nx_skip ?_) | (all_goals refine nx_exit ?_; all_goals refine kp_code_exit ?_; all_goals refine kp_loop_exit ?_; all_goals refine kp_blk_exit rfl ?_; all_goals refine kp_code_normal ?_; all_goals refine nx_seq ?_; all_goals refine nx_seq ?_; all_goals refine nx_region ?_; all_goals (refine nx_op ?_; refine opw_yld (Yld.move rfl) rfl ?_); all_goals (refine nx_op ?_; refine opw_yld (Yld.lenSlice rfl) rfl ?_); all_goals (refine nx_op ?_; refine opw_yld (Yld.cmp rfl rfl rfl) rfl ?_); all_goals refine nx_nil ?_; all_goals refine kp_code_normal ?_; all_goals (refine nx_cond rfl (fun hc => ?_) (fun hc => ?_)); all_goals (first | (exact Bool.noConfusion (hc.symm.trans (by first | rfl | assumption) : true = false)) | (exact Bool.noConfusion (hc.symm.trans (by first | rfl | assumption) : false = true)) | (all_goals refine nx_seq ?_; all_goals refine nx_region ?_; all_goals (refine nx_op ?_; refine opw_yld (Yld.build rfl rfl) rfl ?_); all_goals (refine nx_op ?_; refine opw_storeAgg rfl rfl rfl (by simp [Value.oneCell']) ?_); all_goals (refine nx_op ?_; refine opw_yld (Yld.assign rfl) rfl ?_); all_goals refine nx_nil ?_; all_goals refine kp_code_normal ?_; all_goals refine nx_ret ?_; all_goals refine kp_code_ret ?_; all_goals (exact resC2 (by first | exact .inl rfl | exact .inr rfl) Tryd.results41 rfl rfl [wc b T.t 1 (40 - (fuel : Int))] inferInstance ⟨1, _, rfl, by decide, rfl⟩)) | (all_goals refine nx_skip ?_)); all_goals refine kp_code_normal ?_; all_goals refine nx_seq ?_; all_goals refine nx_seq ?_; all_goals refine nx_region ?_; all_goals (refine nx_op ?_; refine opw_yld (Yld.move rfl) rfl ?_); all_goals (refine nx_op ?_; refine opw_yld (Yld.move rfl) rfl ?_); all_goals (refine nx_op ?_; refine opw_yld (Yld.lenSlice rfl) rfl ?_); all_goals (refine nx_op ?_; (first | refine opw_yld (Yld.subI rfl rfl (by omega) (by omega)) rfl ?_ | refine opw_yld (Yld.sub rfl rfl) rfl ?_)); all_goals (refine nx_op ?_; refine opw_yld (Yld.sliceH rfl rfl (by omega)) rfl ?_); all_goals (refine nx_op ?_; refine opw_yld (Yld.lenSlice rfl) rfl ?_); all_goals (refine nx_op ?_; refine opw_yld (Yld.move rfl) rfl ?_); all_goals refine nx_nil ?_; all_goals refine kp_code_normal ?_; all_goals refine nx_block ?_))
        all_goals refine kp_code_normal ?_
        all_goals refine nx_seq ?_
        all_goals refine nx_block ?_
        all_goals refine nx_seq ?_
        all_goals refine nx_region ?_
        all_goals (refine nx_op ?_; refine opw_yld (Yld.indexAddr rfl rfl (by omega)) rfl ?_)
        all_goals (refine nx_op ?_; refine opw_yld (Yld.load rfl) rfl ?_)
        all_goals (refine nx_op ?_; refine opw_yld (Yld.assign rfl) rfl ?_)
        all_goals refine nx_nil ?_
        all_goals refine kp_code_normal ?_
        all_goals refine nx_seq ?_
        all_goals refine nx_region ?_
        all_goals (refine nx_op ?_; refine opw_yld (Yld.move rfl) rfl ?_)
        all_goals (refine nx_op ?_; refine opw_yld (Yld.lenString rfl) rfl ?_)
        all_goals (refine nx_op ?_; refine opw_yld (Yld.cmp rfl rfl rfl) rfl ?_)
        all_goals refine nx_nil ?_
        all_goals refine kp_code_normal ?_
        all_goals (refine nx_cond rfl (fun hc => ?_) (fun hc => ?_))
        all_goals (first | (exact Bool.noConfusion (hc.symm.trans (by first | rfl | assumption) : true = false)) | (exact Bool.noConfusion (hc.symm.trans (by first | rfl | assumption) : false = true)) | (all_goals refine nx_seq ?_; all_goals refine nx_region ?_; all_goals (refine nx_op ?_; refine opw_yld (Yld.build (cs := [.int .i64 0, .string ⟨#[]⟩, .int .i64 0]) rfl rfl) rfl ?_); all_goals (refine nx_op ?_; refine opw_storeAgg rfl rfl rfl (by simp [Value.oneCell']) ?_); all_goals (refine nx_op ?_; refine opw_yld (Yld.assign rfl) rfl ?_); all_goals refine nx_nil ?_; all_goals refine kp_code_normal ?_; all_goals refine nx_ret ?_; all_goals refine kp_blk_ret ?_; all_goals refine kp_code_ret ?_; all_goals refine kp_loop_ret ?_; all_goals refine kp_blk_ret ?_; all_goals refine kp_code_ret ?_; all_goals (exact resC2 (by first | exact .inl rfl | exact .inr rfl) Tryd.results41 rfl rfl [wc b T.t 1 (40 - (fuel : Int))] inferInstance ⟨1, _, rfl, by decide, rfl⟩)) | (all_goals refine nx_skip ?_))
        all_goals refine kp_blk_normal ?_
        all_goals refine kp_code_normal ?_
        all_goals refine nx_region ?_
        all_goals (refine nx_op ?_; fail)
        all_goals (refine nx_op ?_; refine opw_yld (Yld.move rfl) rfl ?_)
        all_goals refine nx_nil ?_
      · have hb4 : decide ((255 : Int) < (D[i].size : Int)) = false := by simp; omega
        all_goals refine nx_seq ?_
        all_goals refine nx_region ?_
        all_goals (refine nx_op ?_; refine opw_yld (Yld.cmp rfl rfl rfl) rfl ?_)
        all_goals refine nx_nil ?_
        all_goals refine kp_code_normal ?_
        all_goals refine nx_seq ?_
        all_goals (refine nx_cond rfl (fun hc => ?_) (fun hc => ?_))
        all_goals (first | (exact Bool.noConfusion (hc.symm.trans (by first | rfl | assumption) : true = false)) | (exact Bool.noConfusion (hc.symm.trans (by first | rfl | assumption) : false = true)) | (all_goals refine nx_skip ?_) | (all_goals refine nx_exit ?_; all_goals refine kp_code_exit ?_; all_goals refine kp_loop_exit ?_; all_goals refine kp_blk_exit rfl ?_; all_goals refine kp_code_normal ?_; all_goals refine nx_seq ?_; all_goals refine nx_seq ?_; all_goals refine nx_region ?_; all_goals (refine nx_op ?_; refine opw_yld (Yld.move rfl) rfl ?_); all_goals (refine nx_op ?_; refine opw_yld (Yld.lenSlice rfl) rfl ?_); all_goals (refine nx_op ?_; refine opw_yld (Yld.cmp rfl rfl rfl) rfl ?_); all_goals refine nx_nil ?_; all_goals refine kp_code_normal ?_; all_goals (refine nx_cond rfl (fun hc => ?_) (fun hc => ?_)); all_goals (first | (exact Bool.noConfusion (hc.symm.trans (by first | rfl | assumption) : true = false)) | (exact Bool.noConfusion (hc.symm.trans (by first | rfl | assumption) : false = true)) | (all_goals refine nx_seq ?_; all_goals refine nx_region ?_; all_goals (refine nx_op ?_; refine opw_yld (Yld.build rfl rfl) rfl ?_); all_goals (refine nx_op ?_; refine opw_storeAgg rfl rfl rfl (by simp [Value.oneCell']) ?_); all_goals (refine nx_op ?_; refine opw_yld (Yld.assign rfl) rfl ?_); all_goals refine nx_nil ?_; all_goals refine kp_code_normal ?_; all_goals refine nx_ret ?_; all_goals refine kp_code_ret ?_; all_goals (fail)) | (all_goals refine nx_skip ?_)); all_goals refine kp_code_normal ?_; all_goals refine nx_seq ?_; all_goals refine nx_seq ?_; all_goals refine nx_region ?_; all_goals (refine nx_op ?_; refine opw_yld (Yld.move rfl) rfl ?_); all_goals (refine nx_op ?_; refine opw_yld (Yld.move rfl) rfl ?_); all_goals (refine nx_op ?_; refine opw_yld (Yld.lenSlice rfl) rfl ?_); all_goals (refine nx_op ?_; (first | refine opw_yld (Yld.subI rfl rfl (by omega) (by omega)) rfl ?_ | refine opw_yld (Yld.sub rfl rfl) rfl ?_)); all_goals (refine nx_op ?_; refine opw_yld (Yld.sliceH rfl rfl (by omega)) rfl ?_); all_goals (refine nx_op ?_; refine opw_yld (Yld.lenSlice rfl) rfl ?_); all_goals (refine nx_op ?_; refine opw_yld (Yld.move rfl) rfl ?_); all_goals refine nx_nil ?_; all_goals refine kp_code_normal ?_; all_goals refine nx_block ?_))
        all_goals refine kp_code_normal ?_
        all_goals refine nx_seq ?_
        all_goals refine nx_block ?_
        all_goals refine nx_seq ?_
        all_goals refine nx_region ?_
        all_goals (refine nx_op ?_; refine opw_yld (Yld.indexAddr rfl rfl (by omega)) rfl ?_)
        all_goals (refine nx_op ?_; refine opw_yld (Yld.load rfl) rfl ?_)
        all_goals (refine nx_op ?_; refine opw_yld (Yld.assign rfl) rfl ?_)
        all_goals refine nx_nil ?_
        all_goals refine kp_code_normal ?_
        all_goals refine nx_seq ?_
        all_goals refine nx_region ?_
        all_goals (refine nx_op ?_; refine opw_yld (Yld.move rfl) rfl ?_)
        all_goals (refine nx_op ?_; refine opw_yld (Yld.lenString rfl) rfl ?_)
        all_goals (refine nx_op ?_; refine opw_yld (Yld.cmp rfl rfl rfl) rfl ?_)
        all_goals refine nx_nil ?_
        all_goals refine kp_code_normal ?_
        all_goals (refine nx_cond rfl (fun hc => ?_) (fun hc => ?_))
        all_goals (first | (exact Bool.noConfusion (hc.symm.trans (by first | rfl | assumption) : true = false)) | (exact Bool.noConfusion (hc.symm.trans (by first | rfl | assumption) : false = true)) | (all_goals refine nx_seq ?_; all_goals refine nx_region ?_; all_goals (refine nx_op ?_; refine opw_yld (Yld.build rfl rfl) rfl ?_); all_goals (refine nx_op ?_; refine opw_storeAgg rfl rfl rfl (by simp [Value.oneCell']) ?_); all_goals (refine nx_op ?_; refine opw_yld (Yld.assign rfl) rfl ?_); all_goals refine nx_nil ?_; all_goals refine kp_code_normal ?_; all_goals refine nx_ret ?_; all_goals refine kp_blk_ret ?_; all_goals refine kp_code_ret ?_; all_goals refine kp_loop_ret ?_; all_goals refine kp_blk_ret ?_; all_goals refine kp_code_ret ?_; all_goals (fail)) | (all_goals refine nx_skip ?_))
        all_goals refine kp_blk_normal ?_
        all_goals refine kp_code_normal ?_
        all_goals refine nx_region ?_
        all_goals (refine nx_op ?_; refine opw_yld (Yld.addI rfl rfl (by omega) (by omega)) rfl ?_)
        all_goals (refine nx_op ?_; refine opw_yld (Yld.move rfl) rfl ?_)
        all_goals refine nx_nil ?_
        refine nx_round (m' := D.length - (i + 1)) (L' := [[(bn, .cells (D.map Value.string ++ tl).toArray 9 (0, 0))], [(b6, .cells [.int .i64 0, .string ⟨#[]⟩, .int .i64 0].toArray 33 (0, 0))], [(b, .cells [.pointer (some ⟨T.t, 0, none⟩), .int .i64 1, .int .i64 (40 - (fuel : Int))].toArray 95 (0, 0))], F]) ⟨i + 1, by omega, rfl, ?_, rfl, rfl⟩ (by omega) (by repeat' (first | exact .nil | refine .cons rfl ?_)) inferInstance
        intro s hs
        rw [List.take_succ_eq_append_getElem hlt, List.mem_append, List.mem_singleton] at hs
        rcases hs with hs | rfl
        · exact hsz s hs
        · omega
    have hb3 : decide ((i : Int) < (D.length : Int)) = false := by simp; omega
    obtain rfl : i = D.length := by omega
    rw [List.take_length] at hsz
    have hany : ¬ (namesB (bs path)).any (fun s => decide (255 < s.length)) = true := by
      rw [← hD, List.any_eq_true]
      rintro ⟨s, hs, h⟩
      obtain ⟨q, hq, rfl⟩ := List.mem_map.1 hs
      have := hsz q hq
      rw [bs_len] at h
      simp at h; omega
    by_cases h0 : D.length = 0
    case pos =>
      have hb4 : ((D.length : Int) == 0) = true := by simpa using h0
      have hr2 : restA (abs T.S) R 1 (bs path) fol fuel = .ok ((1, [46], 1), fuel) := by
        unfold restA
        rw [if_neg hany, if_pos (by rw [← hD, List.eq_nil_of_length_eq_zero h0]; rfl)]
      rw [hr2]
      all_goals refine nx_seq ?_
      all_goals refine nx_region ?_
      all_goals (refine nx_op ?_; refine opw_yld (Yld.cmp rfl rfl rfl) rfl ?_)
      all_goals refine nx_nil ?_
      all_goals refine kp_code_normal ?_
      all_goals refine nx_seq ?_
      all_goals (refine nx_cond rfl (fun hc => ?_) (fun hc => ?_))
      all_goals (first | (exact Bool.noConfusion (hc.symm.trans (by first | rfl | assumption) : true = false)) | (exact Bool.noConfusion (hc.symm.trans (by first | rfl | assumption) : false = true)) | (all_goals refine nx_skip ?_) | (all_goals refine nx_exit ?_; all_goals refine kp_code_exit ?_; all_goals refine kp_loop_exit ?_; all_goals refine kp_blk_exit rfl ?_; all_goals refine kp_code_normal ?_; all_goals refine nx_seq ?_; all_goals refine nx_seq ?_; all_goals refine nx_region ?_; all_goals (refine nx_op ?_; refine opw_yld (Yld.move rfl) rfl ?_); all_goals (refine nx_op ?_; refine opw_yld (Yld.lenSlice rfl) rfl ?_); all_goals (refine nx_op ?_; refine opw_yld (Yld.cmp rfl rfl rfl) rfl ?_); all_goals refine nx_nil ?_; all_goals refine kp_code_normal ?_; all_goals (refine nx_cond rfl (fun hc => ?_) (fun hc => ?_)); all_goals (first | (exact Bool.noConfusion (hc.symm.trans (by first | rfl | assumption) : true = false)) | (exact Bool.noConfusion (hc.symm.trans (by first | rfl | assumption) : false = true)) | (all_goals refine nx_seq ?_; all_goals refine nx_region ?_; all_goals (refine nx_op ?_; refine opw_yld (Yld.build (cs := [.int .i64 1, .string ⟨#[46]⟩, .int .i64 1]) rfl rfl) rfl ?_); all_goals (refine nx_op ?_; refine opw_storeAgg rfl rfl rfl (by simp [Value.oneCell']) ?_); all_goals (refine nx_op ?_; refine opw_yld (Yld.assign rfl) rfl ?_); all_goals refine nx_nil ?_; all_goals refine kp_code_normal ?_; all_goals refine nx_ret ?_; all_goals refine kp_code_ret ?_; all_goals (exact resC2 (by first | exact .inl rfl | exact .inr rfl) Tryd.results41 rfl rfl [wc b T.t 1 (40 - (fuel : Int))] inferInstance ⟨1, _, rfl, rfl, rfl, Nat.le_refl _⟩)) | (all_goals refine nx_skip ?_)); all_goals refine kp_code_normal ?_; all_goals refine nx_seq ?_; all_goals refine nx_seq ?_; all_goals refine nx_region ?_; all_goals (refine nx_op ?_; refine opw_yld (Yld.move rfl) rfl ?_); all_goals (refine nx_op ?_; refine opw_yld (Yld.move rfl) rfl ?_); all_goals (refine nx_op ?_; refine opw_yld (Yld.lenSlice rfl) rfl ?_); all_goals (refine nx_op ?_; (first | refine opw_yld (Yld.subI rfl rfl (by omega) (by omega)) rfl ?_ | refine opw_yld (Yld.sub rfl rfl) rfl ?_)); all_goals (refine nx_op ?_; refine opw_yld (Yld.sliceH rfl rfl (by omega)) rfl ?_); all_goals (refine nx_op ?_; refine opw_yld (Yld.lenSlice rfl) rfl ?_); all_goals (refine nx_op ?_; refine opw_yld (Yld.move rfl) rfl ?_); all_goals refine nx_nil ?_; all_goals refine kp_code_normal ?_; all_goals refine nx_block ?_))
      all_goals refine kp_code_normal ?_
      all_goals refine nx_seq ?_
      all_goals refine nx_block ?_
      all_goals refine nx_seq ?_
      all_goals refine nx_region ?_
      all_goals (refine nx_op ?_; refine opw_yld (Yld.indexAddr rfl rfl (by omega)) rfl ?_)
      all_goals (refine nx_op ?_; refine opw_yld (Yld.load rfl) rfl ?_)
      all_goals (refine nx_op ?_; refine opw_yld (Yld.assign rfl) rfl ?_)
      all_goals refine nx_nil ?_
      all_goals refine kp_code_normal ?_
      all_goals refine nx_seq ?_
      all_goals refine nx_region ?_
      all_goals (refine nx_op ?_; refine opw_yld (Yld.move rfl) rfl ?_)
      all_goals (refine nx_op ?_; refine opw_yld (Yld.lenString rfl) rfl ?_)
      all_goals (refine nx_op ?_; refine opw_yld (Yld.cmp rfl rfl rfl) rfl ?_)
      all_goals refine nx_nil ?_
      all_goals refine kp_code_normal ?_
      all_goals (refine nx_cond rfl (fun hc => ?_) (fun hc => ?_))
      all_goals (first | (exact Bool.noConfusion (hc.symm.trans (by first | rfl | assumption) : true = false)) | (exact Bool.noConfusion (hc.symm.trans (by first | rfl | assumption) : false = true)) | (all_goals refine nx_seq ?_; all_goals refine nx_region ?_; all_goals (refine nx_op ?_; refine opw_yld (Yld.build rfl rfl) rfl ?_); all_goals (refine nx_op ?_; refine opw_storeAgg rfl rfl rfl (by simp [Value.oneCell']) ?_); all_goals (refine nx_op ?_; refine opw_yld (Yld.assign rfl) rfl ?_); all_goals refine nx_nil ?_; all_goals refine kp_code_normal ?_; all_goals refine nx_ret ?_; all_goals refine kp_blk_ret ?_; all_goals refine kp_code_ret ?_; all_goals refine kp_loop_ret ?_; all_goals refine kp_blk_ret ?_; all_goals refine kp_code_ret ?_; all_goals (exact resC2 (by first | exact .inl rfl | exact .inr rfl) Tryd.results41 rfl rfl [wc b T.t 1 (40 - (fuel : Int))] inferInstance ⟨1, _, rfl, rfl, rfl, Nat.le_refl _⟩)) | (all_goals refine nx_skip ?_))
      all_goals refine kp_blk_normal ?_
      all_goals refine kp_code_normal ?_
      all_goals refine nx_region ?_
      all_goals (refine nx_op ?_; fail)
      all_goals (refine nx_op ?_; refine opw_yld (Yld.move rfl) rfl ?_)
      all_goals refine nx_nil ?_
    have hb4 : ((D.length : Int) == 0) = false := by simpa using h0
    obtain ⟨bn, cap, tl, hev2, rfl, hcap⟩ := Own_some hown (by omega)
    cases hev2
    have hne : namesB (bs path) ≠ [] := by rw [← hD]; intro h; apply h0; simpa using congrArg List.length h
    have hto : ToN ((D.length : Int) - 1) (D.length - 1) := ⟨by omega⟩
    have hr2 : restA (abs T.S) R 1 (bs path) fol fuel = (match stepsA (abs T.S) R 1 (D.map bs).dropLast fuel with
        | .error e => .error e
        | .ok (d, k) => lastA (abs T.S) R d ((D.map bs).getLastD []) fol (hasSuf (bs path) [47]) k) := by
      unfold restA
      rw [if_neg hany, if_neg hne, ← hD]
    rw [hr2]
    generalize hst : stepsA (abs T.S) R 1 (D.map bs).dropLast fuel = st
    have hl1 : ((D.length : Int) - 1) = ((D.length - 1 : Nat) : Int) := by omega
    all_goals refine nx_seq ?_
    all_goals refine nx_region ?_
    all_goals (refine nx_op ?_; refine opw_yld (Yld.cmp rfl rfl rfl) rfl ?_)
    all_goals refine nx_nil ?_
    all_goals refine kp_code_normal ?_
    all_goals refine nx_seq ?_
    all_goals (refine nx_cond rfl (fun hc => ?_) (fun hc => ?_))
    all_goals (first | (exact Bool.noConfusion (hc.symm.trans (by first | rfl | assumption) : true = false)) | (exact Bool.noConfusion (hc.symm.trans (by first | rfl | assumption) : false = true)) | (all_goals refine nx_skip ?_) | (all_goals refine nx_exit ?_; all_goals refine kp_code_exit ?_; all_goals refine kp_loop_exit ?_; all_goals refine kp_blk_exit rfl ?_; all_goals refine kp_code_normal ?_; all_goals refine nx_seq ?_; all_goals refine nx_seq ?_; all_goals refine nx_region ?_; all_goals (refine nx_op ?_; refine opw_yld (Yld.move rfl) rfl ?_); all_goals (refine nx_op ?_; refine opw_yld (Yld.lenSlice rfl) rfl ?_); all_goals (refine nx_op ?_; refine opw_yld (Yld.cmp rfl rfl rfl) rfl ?_); all_goals refine nx_nil ?_; all_goals refine kp_code_normal ?_; all_goals (refine nx_cond rfl (fun hc => ?_) (fun hc => ?_)); all_goals (first | (exact Bool.noConfusion (hc.symm.trans (by first | rfl | assumption) : true = false)) | (exact Bool.noConfusion (hc.symm.trans (by first | rfl | assumption) : false = true)) | (all_goals refine nx_seq ?_; all_goals refine nx_region ?_; all_goals (refine nx_op ?_; refine opw_yld (Yld.build rfl rfl) rfl ?_); all_goals (refine nx_op ?_; refine opw_storeAgg rfl rfl rfl (by simp [Value.oneCell']) ?_); all_goals (refine nx_op ?_; refine opw_yld (Yld.assign rfl) rfl ?_); all_goals refine nx_nil ?_; all_goals refine kp_code_normal ?_; all_goals refine nx_ret ?_; all_goals refine kp_code_ret ?_; all_goals (fail)) | (all_goals refine nx_skip ?_)); all_goals refine kp_code_normal ?_; all_goals refine nx_seq ?_; all_goals refine nx_seq ?_; all_goals refine nx_region ?_; all_goals (refine nx_op ?_; refine opw_yld (Yld.move rfl) rfl ?_); all_goals (refine nx_op ?_; refine opw_yld (Yld.move rfl) rfl ?_); all_goals (refine nx_op ?_; refine opw_yld (Yld.lenSlice rfl) rfl ?_); all_goals (refine nx_op ?_; refine opw_yld (Yld.subI rfl rfl (by omega) (by omega)) rfl ?_; rw [hl1]); all_goals (refine nx_op ?_; refine opw_yld (Yld.sliceH rfl rfl (by omega)) rfl ?_); all_goals (refine nx_op ?_; refine opw_yld (Yld.lenSlice rfl) rfl ?_); all_goals (refine nx_op ?_; refine opw_yld (Yld.move rfl) rfl ?_); all_goals refine nx_nil ?_; all_goals refine kp_code_normal ?_; all_goals refine nx_block ?_))
    refine nx_loop (fun fr L m => ∃ (i : Nat) (d2 : Int) (k2 : Nat), i ≤ D.length - 1 ∧ m = D.length - 1 - i ∧ k2 ≤ fuel ∧ stepsA (abs T.S) R d2 ((D.map bs).dropLast.drop i) k2 = st ∧
        fr = [(0, .pointer (some ⟨b, 0, none⟩)), (2, .bool fol), (6, .pointer (some ⟨b6, 0, none⟩)), (8, .slice (some ⟨bn, 0, none⟩) D.length scap), (9, .bool (hasSuf (bs path) [47])), (52, .slice (some ⟨bn, 0, none⟩) (D.length - 1) scap), (53, .int .i64 (D.length - 1 : Nat)), (54, .int .i64 i)] ∧
        L = [[(bn, .cells (D.map Value.string ++ tl).toArray 9 (0, 0))], [(b6, .cells [.int .i64 0, .string ⟨#[]⟩, .int .i64 0].toArray 33 (0, 0))], [(b, .cells [.pointer (some ⟨T.t, 0, none⟩), .int .i64 d2, .int .i64 (40 - (k2 : Int))].toArray 95 (0, 0))], F])
      (L' := [[(bn, .cells (D.map Value.string ++ tl).toArray 9 (0, 0))], [(b6, .cells [.int .i64 0, .string ⟨#[]⟩, .int .i64 0].toArray 33 (0, 0))], [(b, .cells [.pointer (some ⟨T.t, 0, none⟩), .int .i64 1, .int .i64 (40 - (fuel : Int))].toArray 95 (0, 0))], F]) ⟨0, 1, fuel, by omega, rfl, Nat.le_refl _, hst, rfl, rfl⟩ (by repeat' (first | exact .nil | refine .cons rfl ?_)) inferInstance ?_
    rintro fr L m ⟨i, d2, k2, hi, rfl, hk2, hst2, rfl, rfl⟩
    have hin : i < D.length := by omega
    have hn1 : NthL (D.map Value.string ++ tl) i (.string D[i]) := ⟨by rw [List.getElem?_append_left (by simpa using hin)]; simp [List.getElem?_eq_getElem hin]⟩
    have hsb : ∀ F', InT F' T → Sp Tryd.prog 92 [.pointer (some ⟨b, 0, none⟩), .string D[i]] F' [wc b T.t d2 (40 - (k2 : Int))] (SPost b T.t k2 (stepA (abs T.S) R d2 (bs D[i]) k2)) := fun F' h => sp92 hR h d2 D[i] k2 (by omega) hN
    by_cases hlt : i < D.length - 1
    case neg =>
      have hb5 : decide ((i : Int) < ((D.length - 1 : Nat) : Int)) = false := by simp; omega
      obtain rfl : i = D.length - 1 := by omega
      have hdn : (D.map bs).dropLast.drop (D.length - 1) = [] := List.drop_eq_nil_of_le (by simp)
      rw [hdn] at hst2
      obtain rfl : st = .ok (d2, k2) := hst2.symm
      have hgl : (D.map bs).getLastD [] = bs D[D.length - 1] := by rw [getLastD_eq (i := D.length - 1) (by simp; omega)]; simp
      rw [hgl]
      dsimp only
      have h93 : ∀ F', InT F' T → Sp Tryd.prog 93 [.pointer (some ⟨b, 0, none⟩), .string D[D.length - 1], .bool fol, .bool (hasSuf (bs path) [47])] F' [wc b T.t d2 (40 - (k2 : Int))] (WPost b T.t k2 (lastA (abs T.S) R d2 (bs D[D.length - 1]) fol (hasSuf (bs path) [47]) k2)) := fun F' h => sp93 hR h d2 _ fol _ k2 (by omega) hN
      generalize lastA (abs T.S) R d2 (bs D[D.length - 1]) fol (hasSuf (bs path) [47]) k2 = r at h93 ⊢
      all_goals refine nx_seq ?_
      all_goals refine nx_region ?_
      all_goals (refine nx_op ?_; refine opw_yld (Yld.cmp rfl rfl rfl) rfl ?_)
      all_goals refine nx_nil ?_
      all_goals refine kp_code_normal ?_
      all_goals refine nx_seq ?_
      all_goals (refine nx_cond rfl (fun hc => ?_) (fun hc => ?_))
      all_goals (first | (exact Bool.noConfusion (hc.symm.trans (by first | rfl | assumption) : true = false)) | (exact Bool.noConfusion (hc.symm.trans (by first | rfl | assumption) : false = true)) | (all_goals refine nx_skip ?_) | (all_goals refine nx_exit ?_; all_goals refine kp_code_exit ?_; all_goals refine kp_loop_exit ?_; all_goals refine kp_blk_exit rfl ?_; all_goals refine kp_code_normal ?_; all_goals refine nx_seq ?_; all_goals refine nx_region ?_; all_goals (refine nx_op ?_; refine opw_yld (Yld.move rfl) rfl ?_); all_goals (refine nx_op ?_; refine opw_yld (Yld.move rfl) rfl ?_); all_goals (refine nx_op ?_; refine opw_yld (Yld.move rfl) rfl ?_); all_goals (refine nx_op ?_; refine opw_yld (Yld.lenSlice rfl) rfl ?_); all_goals (refine nx_op ?_; refine opw_yld (Yld.subI rfl rfl (by omega) (by omega)) rfl ?_; rw [hl1]); all_goals (refine nx_op ?_; refine opw_yld (Yld.indexAddr rfl rfl (by omega)) rfl ?_); all_goals (refine nx_op ?_; refine opw_yld (Yld.load rfl) rfl ?_); all_goals (refine nx_op ?_; refine opw_yld (Yld.move rfl) rfl ?_); all_goals (refine nx_op ?_; refine opw_yld (Yld.move rfl) rfl ?_); all_goals (refine nx_op ?_; (refine opw_call rfl (h93 _ (hT.mono (by simp +contextual))) inferInstance rfl ?_; rintro v B ⟨d', l', rfl, h⟩; simp only [List.cons_append, List.nil_append, wc]; rcases r with e | ⟨⟨f1, f2, f3⟩, k⟩; all_goals (first | (obtain ⟨h1, rfl⟩ := h; simp only [foZ]) | (obtain ⟨rfl, h1, h2⟩ := h; simp only [foV])))); all_goals (refine nx_op ?_; refine opw_yld (Yld.extract rfl rfl) rfl ?_); all_goals (refine nx_op ?_; refine opw_yld (Yld.extract rfl rfl) rfl ?_); all_goals (refine nx_op ?_; refine opw_storeAgg rfl rfl rfl (by simp [Value.oneCell']) ?_); all_goals (refine nx_op ?_; refine opw_yld (Yld.assign rfl) rfl ?_); all_goals refine nx_nil ?_; all_goals refine kp_code_normal ?_; all_goals refine nx_ret ?_; all_goals (first | exact resC2 (by first | exact .inl rfl | exact .inr rfl) Tryd.results41 rfl rfl [wc b T.t d' l'] inferInstance ⟨d', l', rfl, h1, rfl⟩ | exact resC2 (by first | exact .inl rfl | exact .inr rfl) Tryd.results41 rfl rfl [wc b T.t d' l'] inferInstance ⟨d', l', rfl, rfl, h1, by omega⟩)))
      all_goals refine kp_code_normal ?_
      all_goals refine nx_seq ?_
      all_goals refine nx_block ?_
      all_goals refine nx_seq ?_
      all_goals refine nx_region ?_
      all_goals (refine nx_op ?_; refine opw_yld (Yld.indexAddr rfl rfl (by omega)) rfl ?_)
      all_goals (refine nx_op ?_; refine opw_yld (Yld.load rfl) rfl ?_)
      all_goals (refine nx_op ?_; refine opw_yld (Yld.assign rfl) rfl ?_)
      all_goals refine nx_nil ?_
      all_goals refine kp_code_normal ?_
      all_goals refine nx_seq ?_
      all_goals refine nx_region ?_
      all_goals (refine nx_op ?_; refine opw_yld (Yld.move rfl) rfl ?_)
      all_goals (refine nx_op ?_; refine opw_yld (Yld.move rfl) rfl ?_)
      all_goals (refine nx_op ?_; (fail))
      all_goals (refine nx_op ?_; refine opw_yld (Yld.assign rfl) rfl ?_)
      all_goals refine nx_nil ?_
      all_goals refine kp_code_normal ?_
      all_goals refine nx_seq ?_
      all_goals refine nx_region ?_
      all_goals (refine nx_op ?_; refine opw_yld (Yld.move rfl) rfl ?_)
      all_goals (refine nx_op ?_; refine opw_yld (Yld.cmp rfl rfl rfl) rfl ?_)
      all_goals refine nx_nil ?_
      all_goals refine kp_code_normal ?_
      all_goals (refine nx_cond rfl (fun hc => ?_) (fun hc => ?_))
      all_goals (first | (exact Bool.noConfusion (hc.symm.trans (by first | rfl | assumption) : true = false)) | (exact Bool.noConfusion (hc.symm.trans (by first | rfl | assumption) : false = true)) | (all_goals refine nx_seq ?_; all_goals refine nx_region ?_; all_goals (refine nx_op ?_; refine opw_yld (Yld.build rfl rfl) rfl ?_); all_goals (refine nx_op ?_; refine opw_yld (Yld.move rfl) rfl ?_); all_goals (refine nx_op ?_; refine opw_storeAgg rfl rfl rfl (by simp [Value.oneCell']) ?_); all_goals (refine nx_op ?_; refine opw_yld (Yld.assign rfl) rfl ?_); all_goals refine nx_nil ?_; all_goals refine kp_code_normal ?_; all_goals refine nx_ret ?_; all_goals refine kp_blk_ret ?_; all_goals refine kp_code_ret ?_; all_goals refine kp_loop_ret ?_; all_goals refine kp_blk_ret ?_; all_goals refine kp_code_ret ?_; all_goals (first | exact resC2 (by first | exact .inl rfl | exact .inr rfl) Tryd.results41 rfl rfl [wc b T.t d' l'] inferInstance ⟨d', l', rfl, h1, rfl⟩ | exact resC2 (by first | exact .inl rfl | exact .inr rfl) Tryd.results41 rfl rfl [wc b T.t d' l'] inferInstance ⟨d', l', rfl, rfl, h1, by omega⟩)) | (all_goals refine nx_skip ?_))
      all_goals refine kp_blk_normal ?_
      all_goals refine kp_code_normal ?_
      all_goals refine nx_region ?_
      all_goals (refine nx_op ?_; (first | refine opw_yld (Yld.addI rfl rfl (by omega) (by omega)) rfl ?_ | refine opw_yld (Yld.add rfl rfl) rfl ?_))
      all_goals (refine nx_op ?_; refine opw_yld (Yld.move rfl) rfl ?_)
      all_goals refine nx_nil ?_
    have hb5 : decide ((i : Int) < ((D.length - 1 : Nat) : Int)) = true := by simp; omega
    have hdn : (D.map bs).dropLast.drop i = bs D[i] :: (D.map bs).dropLast.drop (i + 1) := by
      rw [List.drop_eq_getElem_cons (by simpa using hlt)]; simp
    rw [hdn, stepsA] at hst2
    generalize stepA (abs T.S) R d2 (bs D[i]) k2 = r at hsb hst2
    rcases r with e | ⟨d3, k3⟩
    case error =>
      obtain rfl : st = .error e := hst2.symm
      dsimp only
      by_cases he : e = 0
      · subst he
        all_goals refine nx_seq ?_
        all_goals refine nx_region ?_
        all_goals (refine nx_op ?_; refine opw_yld (Yld.cmp rfl rfl rfl) rfl ?_)
        all_goals refine nx_nil ?_
        all_goals refine kp_code_normal ?_
        all_goals refine nx_seq ?_
        all_goals (refine nx_cond rfl (fun hc => ?_) (fun hc => ?_))
        all_goals (first | (exact Bool.noConfusion (hc.symm.trans (by first | rfl | assumption) : true = false)) | (exact Bool.noConfusion (hc.symm.trans (by first | rfl | assumption) : false = true)) | (all_goals refine nx_skip ?_) | (all_goals refine nx_exit ?_; all_goals refine kp_code_exit ?_; all_goals refine kp_loop_exit ?_; all_goals refine kp_blk_exit rfl ?_; all_goals refine kp_code_normal ?_; all_goals refine nx_seq ?_; all_goals refine nx_region ?_; all_goals (refine nx_op ?_; refine opw_yld (Yld.move rfl) rfl ?_); all_goals (refine nx_op ?_; refine opw_yld (Yld.move rfl) rfl ?_); all_goals (refine nx_op ?_; refine opw_yld (Yld.move rfl) rfl ?_); all_goals (refine nx_op ?_; refine opw_yld (Yld.lenSlice rfl) rfl ?_); all_goals (refine nx_op ?_; (first | refine opw_yld (Yld.subI rfl rfl (by omega) (by omega)) rfl ?_ | refine opw_yld (Yld.sub rfl rfl) rfl ?_)); all_goals (refine nx_op ?_; refine opw_yld (Yld.indexAddr rfl rfl (by omega)) rfl ?_); all_goals (refine nx_op ?_; refine opw_yld (Yld.load rfl) rfl ?_); all_goals (refine nx_op ?_; refine opw_yld (Yld.move rfl) rfl ?_); all_goals (refine nx_op ?_; refine opw_yld (Yld.move rfl) rfl ?_); all_goals (refine nx_op ?_; (fail)); all_goals (refine nx_op ?_; refine opw_yld (Yld.extract rfl rfl) rfl ?_); all_goals (refine nx_op ?_; refine opw_yld (Yld.extract rfl rfl) rfl ?_); all_goals (refine nx_op ?_; refine opw_storeAgg rfl rfl rfl (by simp [Value.oneCell']) ?_); all_goals (refine nx_op ?_; refine opw_yld (Yld.assign rfl) rfl ?_); all_goals refine nx_nil ?_; all_goals refine kp_code_normal ?_; all_goals refine nx_ret ?_))
        all_goals refine kp_code_normal ?_
        all_goals refine nx_seq ?_
        all_goals refine nx_block ?_
        all_goals refine nx_seq ?_
        all_goals refine nx_region ?_
        all_goals (refine nx_op ?_; refine opw_yld (Yld.indexAddr rfl rfl (by omega)) rfl ?_)
        all_goals (refine nx_op ?_; refine opw_yld (Yld.load rfl) rfl ?_)
        all_goals (refine nx_op ?_; refine opw_yld (Yld.assign rfl) rfl ?_)
        all_goals refine nx_nil ?_
        all_goals refine kp_code_normal ?_
        all_goals refine nx_seq ?_
        all_goals refine nx_region ?_
        all_goals (refine nx_op ?_; refine opw_yld (Yld.move rfl) rfl ?_)
        all_goals (refine nx_op ?_; refine opw_yld (Yld.move rfl) rfl ?_)
        all_goals (refine nx_op ?_; (refine opw_call rfl (hsb _ (hT.mono (by simp +contextual))) inferInstance rfl ?_; rintro v B ⟨d', l', rfl, h⟩; exact absurd rfl h.1))
        all_goals (refine nx_op ?_; refine opw_yld (Yld.assign rfl) rfl ?_)
        all_goals refine nx_nil ?_
        all_goals refine kp_code_normal ?_
        all_goals refine nx_seq ?_
        all_goals refine nx_region ?_
        all_goals (refine nx_op ?_; refine opw_yld (Yld.move rfl) rfl ?_)
        all_goals (refine nx_op ?_; refine opw_yld (Yld.cmp rfl rfl rfl) rfl ?_)
        all_goals refine nx_nil ?_
        all_goals refine kp_code_normal ?_
        all_goals (refine nx_cond rfl (fun hc => ?_) (fun hc => ?_))
        all_goals (first | (exact Bool.noConfusion (hc.symm.trans (by first | rfl | assumption) : true = false)) | (exact Bool.noConfusion (hc.symm.trans (by first | rfl | assumption) : false = true)) | (all_goals refine nx_seq ?_; all_goals refine nx_region ?_; all_goals (refine nx_op ?_; refine opw_yld (Yld.build rfl rfl) rfl ?_); all_goals (refine nx_op ?_; refine opw_yld (Yld.move rfl) rfl ?_); all_goals (refine nx_op ?_; refine opw_storeAgg rfl rfl rfl (by simp [Value.oneCell']) ?_); all_goals (refine nx_op ?_; refine opw_yld (Yld.assign rfl) rfl ?_); all_goals refine nx_nil ?_; all_goals refine kp_code_normal ?_; all_goals refine nx_ret ?_; all_goals refine kp_blk_ret ?_; all_goals refine kp_code_ret ?_; all_goals refine kp_loop_ret ?_; all_goals refine kp_blk_ret ?_; all_goals refine kp_code_ret ?_) | (all_goals refine nx_skip ?_))
        all_goals refine kp_blk_normal ?_
        all_goals refine kp_code_normal ?_
        all_goals refine nx_region ?_
        all_goals (refine nx_op ?_; (first | refine opw_yld (Yld.addI rfl rfl (by omega) (by omega)) rfl ?_ | refine opw_yld (Yld.add rfl rfl) rfl ?_))
        all_goals (refine nx_op ?_; refine opw_yld (Yld.move rfl) rfl ?_)
        all_goals refine nx_nil ?_
      have hb6 : (e != 0) = true := by simpa using he
      all_goals refine nx_seq ?_
      all_goals refine nx_region ?_
      all_goals (refine nx_op ?_; refine opw_yld (Yld.cmp rfl rfl rfl) rfl ?_)
      all_goals refine nx_nil ?_
      all_goals refine kp_code_normal ?_
      all_goals refine nx_seq ?_
      all_goals (refine nx_cond rfl (fun hc => ?_) (fun hc => ?_))
      all_goals (first | (exact Bool.noConfusion (hc.symm.trans (by first | rfl | assumption) : true = false)) | (exact Bool.noConfusion (hc.symm.trans (by first | rfl | assumption) : false = true)) | (all_goals refine nx_skip ?_) | (all_goals refine nx_exit ?_; all_goals refine kp_code_exit ?_; all_goals refine kp_loop_exit ?_; all_goals refine kp_blk_exit rfl ?_; all_goals refine kp_code_normal ?_; all_goals refine nx_seq ?_; all_goals refine nx_region ?_; all_goals (refine nx_op ?_; refine opw_yld (Yld.move rfl) rfl ?_); all_goals (refine nx_op ?_; refine opw_yld (Yld.move rfl) rfl ?_); all_goals (refine nx_op ?_; refine opw_yld (Yld.move rfl) rfl ?_); all_goals (refine nx_op ?_; refine opw_yld (Yld.lenSlice rfl) rfl ?_); all_goals (refine nx_op ?_; (first | refine opw_yld (Yld.subI rfl rfl (by omega) (by omega)) rfl ?_ | refine opw_yld (Yld.sub rfl rfl) rfl ?_)); all_goals (refine nx_op ?_; refine opw_yld (Yld.indexAddr rfl rfl (by omega)) rfl ?_); all_goals (refine nx_op ?_; refine opw_yld (Yld.load rfl) rfl ?_); all_goals (refine nx_op ?_; refine opw_yld (Yld.move rfl) rfl ?_); all_goals (refine nx_op ?_; refine opw_yld (Yld.move rfl) rfl ?_); all_goals (refine nx_op ?_; (fail)); all_goals (refine nx_op ?_; refine opw_yld (Yld.extract rfl rfl) rfl ?_); all_goals (refine nx_op ?_; refine opw_yld (Yld.extract rfl rfl) rfl ?_); all_goals (refine nx_op ?_; refine opw_storeAgg rfl rfl rfl (by simp [Value.oneCell']) ?_); all_goals (refine nx_op ?_; refine opw_yld (Yld.assign rfl) rfl ?_); all_goals refine nx_nil ?_; all_goals refine kp_code_normal ?_; all_goals refine nx_ret ?_; all_goals (exact resC2 (by first | exact .inl rfl | exact .inr rfl) Tryd.results41 rfl rfl [wc b T.t d' l'] inferInstance ⟨d', l', rfl, he, rfl⟩)))
      all_goals refine kp_code_normal ?_
      all_goals refine nx_seq ?_
      all_goals refine nx_block ?_
      all_goals refine nx_seq ?_
      all_goals refine nx_region ?_
      all_goals (refine nx_op ?_; refine opw_yld (Yld.indexAddr rfl rfl (by omega)) rfl ?_)
      all_goals (refine nx_op ?_; refine opw_yld (Yld.load rfl) rfl ?_)
      all_goals (refine nx_op ?_; refine opw_yld (Yld.assign rfl) rfl ?_)
      all_goals refine nx_nil ?_
      all_goals refine kp_code_normal ?_
      all_goals refine nx_seq ?_
      all_goals refine nx_region ?_
      all_goals (refine nx_op ?_; refine opw_yld (Yld.move rfl) rfl ?_)
      all_goals (refine nx_op ?_; refine opw_yld (Yld.move rfl) rfl ?_)
      all_goals (refine nx_op ?_; (refine opw_call rfl (hsb _ (hT.mono (by simp +contextual))) inferInstance rfl ?_; rintro v B ⟨d', l', rfl, h1, rfl⟩; simp only [List.cons_append, List.nil_append, wc]))
      all_goals (refine nx_op ?_; refine opw_yld (Yld.assign rfl) rfl ?_)
      all_goals refine nx_nil ?_
      all_goals refine kp_code_normal ?_
      all_goals refine nx_seq ?_
      all_goals refine nx_region ?_
      all_goals (refine nx_op ?_; refine opw_yld (Yld.move rfl) rfl ?_)
      all_goals (refine nx_op ?_; refine opw_yld (Yld.cmp rfl rfl rfl) rfl ?_)
      all_goals refine nx_nil ?_
      all_goals refine kp_code_normal ?_
      all_goals (refine nx_cond rfl (fun hc => ?_) (fun hc => ?_))
      all_goals (first | (exact Bool.noConfusion (hc.symm.trans (by first | rfl | assumption) : true = false)) | (exact Bool.noConfusion (hc.symm.trans (by first | rfl | assumption) : false = true)) | (all_goals refine nx_seq ?_; all_goals refine nx_region ?_; all_goals (refine nx_op ?_; refine opw_yld (Yld.build (cs := [.int .i64 0, .string ⟨#[]⟩, .int .i64 0]) rfl rfl) rfl ?_); all_goals (refine nx_op ?_; refine opw_yld (Yld.move rfl) rfl ?_); all_goals (refine nx_op ?_; refine opw_storeAgg rfl rfl rfl (by simp [Value.oneCell']) ?_); all_goals (refine nx_op ?_; refine opw_yld (Yld.assign rfl) rfl ?_); all_goals refine nx_nil ?_; all_goals refine kp_code_normal ?_; all_goals refine nx_ret ?_; all_goals refine kp_blk_ret ?_; all_goals refine kp_code_ret ?_; all_goals refine kp_loop_ret ?_; all_goals refine kp_blk_ret ?_; all_goals refine kp_code_ret ?_; all_goals (exact resC2 (by first | exact .inl rfl | exact .inr rfl) Tryd.results41 rfl rfl [wc b T.t d' l'] inferInstance ⟨d', l', rfl, he, rfl⟩)) | (all_goals refine nx_skip ?_))
      all_goals refine kp_blk_normal ?_
      all_goals refine kp_code_normal ?_
      all_goals refine nx_region ?_
      all_goals (refine nx_op ?_; fail)
      all_goals (refine nx_op ?_; refine opw_yld (Yld.move rfl) rfl ?_)
      all_goals refine nx_nil ?_
    all_goals refine nx_seq ?_
    all_goals refine nx_region ?_
    all_goals (refine nx_op ?_; refine opw_yld (Yld.cmp rfl rfl rfl) rfl ?_)
    all_goals refine nx_nil ?_
    all_goals refine kp_code_normal ?_
    all_goals refine nx_seq ?_
    all_goals (refine nx_cond rfl (fun hc => ?_) (fun hc => ?_))
    all_goals (first | (exact Bool.noConfusion (hc.symm.trans (by first | rfl | assumption) : true = false)) | (exact Bool.noConfusion (hc.symm.trans (by first | rfl | assumption) : false = true)) | (all_goals refine nx_skip ?_) | (all_goals refine nx_exit ?_; all_goals refine kp_code_exit ?_; all_goals refine kp_loop_exit ?_; all_goals refine kp_blk_exit rfl ?_; all_goals refine kp_code_normal ?_; all_goals refine nx_seq ?_; all_goals refine nx_region ?_; all_goals (refine nx_op ?_; refine opw_yld (Yld.move rfl) rfl ?_); all_goals (refine nx_op ?_; refine opw_yld (Yld.move rfl) rfl ?_); all_goals (refine nx_op ?_; refine opw_yld (Yld.move rfl) rfl ?_); all_goals (refine nx_op ?_; refine opw_yld (Yld.lenSlice rfl) rfl ?_); all_goals (refine nx_op ?_; (first | refine opw_yld (Yld.subI rfl rfl (by omega) (by omega)) rfl ?_ | refine opw_yld (Yld.sub rfl rfl) rfl ?_)); all_goals (refine nx_op ?_; refine opw_yld (Yld.indexAddr rfl rfl (by omega)) rfl ?_); all_goals (refine nx_op ?_; refine opw_yld (Yld.load rfl) rfl ?_); all_goals (refine nx_op ?_; refine opw_yld (Yld.move rfl) rfl ?_); all_goals (refine nx_op ?_; refine opw_yld (Yld.move rfl) rfl ?_); all_goals (refine nx_op ?_; (fail)); all_goals (refine nx_op ?_; refine opw_yld (Yld.extract rfl rfl) rfl ?_); all_goals (refine nx_op ?_; refine opw_yld (Yld.extract rfl rfl) rfl ?_); all_goals (refine nx_op ?_; refine opw_storeAgg rfl rfl rfl (by simp [Value.oneCell']) ?_); all_goals (refine nx_op ?_; refine opw_yld (Yld.assign rfl) rfl ?_); all_goals refine nx_nil ?_; all_goals refine kp_code_normal ?_; all_goals refine nx_ret ?_; all_goals (fail)))
    all_goals refine kp_code_normal ?_
    all_goals refine nx_seq ?_
    all_goals refine nx_block ?_
    all_goals refine nx_seq ?_
    all_goals refine nx_region ?_
    all_goals (refine nx_op ?_; refine opw_yld (Yld.indexAddr rfl rfl (by omega)) rfl ?_)
    all_goals (refine nx_op ?_; refine opw_yld (Yld.load rfl) rfl ?_)
    all_goals (refine nx_op ?_; refine opw_yld (Yld.assign rfl) rfl ?_)
    all_goals refine nx_nil ?_
    all_goals refine kp_code_normal ?_
    all_goals refine nx_seq ?_
    all_goals refine nx_region ?_
    all_goals (refine nx_op ?_; refine opw_yld (Yld.move rfl) rfl ?_)
    all_goals (refine nx_op ?_; refine opw_yld (Yld.move rfl) rfl ?_)
    all_goals (refine nx_op ?_; (refine opw_call rfl (hsb _ (hT.mono (by simp +contextual))) inferInstance rfl ?_; rintro v B ⟨d', l', rfl, rfl, h1, h2, h3⟩; simp only [List.cons_append, List.nil_append, wc]; subst h1; subst h2))
    all_goals (refine nx_op ?_; refine opw_yld (Yld.assign rfl) rfl ?_)
    all_goals refine nx_nil ?_
    all_goals refine kp_code_normal ?_
    all_goals refine nx_seq ?_
    all_goals refine nx_region ?_
    all_goals (refine nx_op ?_; refine opw_yld (Yld.move rfl) rfl ?_)
    all_goals (refine nx_op ?_; refine opw_yld (Yld.cmp rfl rfl rfl) rfl ?_)
    all_goals refine nx_nil ?_
    all_goals refine kp_code_normal ?_
    all_goals (refine nx_cond rfl (fun hc => ?_) (fun hc => ?_))
    all_goals (first | (exact Bool.noConfusion (hc.symm.trans (by first | rfl | assumption) : true = false)) | (exact Bool.noConfusion (hc.symm.trans (by first | rfl | assumption) : false = true)) | (all_goals refine nx_seq ?_; all_goals refine nx_region ?_; all_goals (refine nx_op ?_; refine opw_yld (Yld.build rfl rfl) rfl ?_); all_goals (refine nx_op ?_; refine opw_yld (Yld.move rfl) rfl ?_); all_goals (refine nx_op ?_; refine opw_storeAgg rfl rfl rfl (by simp [Value.oneCell']) ?_); all_goals (refine nx_op ?_; refine opw_yld (Yld.assign rfl) rfl ?_); all_goals refine nx_nil ?_; all_goals refine kp_code_normal ?_; all_goals refine nx_ret ?_; all_goals refine kp_blk_ret ?_; all_goals refine kp_code_ret ?_; all_goals refine kp_loop_ret ?_; all_goals refine kp_blk_ret ?_; all_goals refine kp_code_ret ?_; all_goals (fail)) | (all_goals refine nx_skip ?_))
    all_goals refine kp_blk_normal ?_
    all_goals refine kp_code_normal ?_
    all_goals refine nx_region ?_
    all_goals (refine nx_op ?_; refine opw_yld (Yld.addI rfl rfl (by omega) (by omega)) rfl ?_)
    all_goals (refine nx_op ?_; refine opw_yld (Yld.move rfl) rfl ?_)
    all_goals refine nx_nil ?_
    refine nx_round (m' := D.length - 1 - (i + 1)) (L' := [[(bn, .cells (D.map Value.string ++ tl).toArray 9 (0, 0))], [(b6, .cells [.int .i64 0, .string ⟨#[]⟩, .int .i64 0].toArray 33 (0, 0))], [(b, .cells [.pointer (some ⟨T.t, 0, none⟩), .int .i64 d', .int .i64 (40 - (k3 : Int))].toArray 95 (0, 0))], F]) ⟨i + 1, d', k3, by omega, rfl, by omega, hst2, rfl, rfl⟩ (by omega) (by repeat' (first | exact .nil | refine .cons rfl ?_)) inferInstance
  · have hb2 : (((c0.toNat : Nat) : Int) == 47) = false := by
      rw [beq_eq_false_iff_ne]; intro h; apply h47; apply UInt8.toNat_inj.1; have : c0.toNat = 47 := by omega
      simpa using this
    have hr : bodyA (abs T.S) R dir (bs path) fol fuel = restA (abs T.S) R dir (bs path) fol fuel := by unfold bodyA; rw [if_neg hp, if_neg (by omega), if_neg (by rw [hc0]; simpa using h47)]
    rw [hr]
    all_goals refine nx_seq ?_
    all_goals refine nx_region ?_
    all_goals (refine nx_op ?_; refine opw_alc Alc.alloc rfl (fun b6 => ?_))
    all_goals (refine nx_op ?_; refine opw_yld (Yld.assign rfl) rfl ?_)
    all_goals refine nx_nil ?_
    all_goals refine kp_code_normal ?_
    all_goals refine nx_seq ?_
    all_goals refine nx_seq ?_
    all_goals refine nx_region ?_
    all_goals (refine nx_op ?_; refine opw_yld (Yld.move rfl) rfl ?_)
    all_goals (refine nx_op ?_; refine opw_yld (Yld.eqS rfl rfl) rfl ?_)
    all_goals refine nx_nil ?_
    all_goals refine kp_code_normal ?_
    all_goals (refine nx_cond rfl (fun hc => ?_) (fun hc => ?_))
    all_goals (first | (exact Bool.noConfusion (hc.symm.trans (by first | rfl | assumption) : true = false)) | (exact Bool.noConfusion (hc.symm.trans (by first | rfl | assumption) : false = true)) | (all_goals refine nx_seq ?_; all_goals refine nx_region ?_; all_goals (refine nx_op ?_; refine opw_yld (Yld.build rfl rfl) rfl ?_); all_goals (refine nx_op ?_; refine opw_storeAgg rfl rfl rfl (by simp [Value.oneCell']) ?_); all_goals (refine nx_op ?_; refine opw_yld (Yld.assign rfl) rfl ?_); all_goals refine nx_nil ?_; all_goals refine kp_code_normal ?_; all_goals refine nx_ret ?_; all_goals refine kp_code_ret ?_) | (all_goals refine nx_skip ?_))
    all_goals refine kp_code_normal ?_
    all_goals refine nx_seq ?_
    all_goals refine nx_seq ?_
    all_goals refine nx_region ?_
    all_goals (refine nx_op ?_; refine opw_yld (Yld.move rfl) rfl ?_)
    all_goals (refine nx_op ?_; refine opw_yld (Yld.lenString rfl) rfl ?_)
    all_goals (refine nx_op ?_; refine opw_yld (Yld.cmp rfl rfl rfl) rfl ?_)
    all_goals refine nx_nil ?_
    all_goals refine kp_code_normal ?_
    all_goals (refine nx_cond rfl (fun hc => ?_) (fun hc => ?_))
    all_goals (first | (exact Bool.noConfusion (hc.symm.trans (by first | rfl | assumption) : true = false)) | (exact Bool.noConfusion (hc.symm.trans (by first | rfl | assumption) : false = true)) | (all_goals refine nx_seq ?_; all_goals refine nx_region ?_; all_goals (refine nx_op ?_; refine opw_yld (Yld.build rfl rfl) rfl ?_); all_goals (refine nx_op ?_; refine opw_storeAgg rfl rfl rfl (by simp [Value.oneCell']) ?_); all_goals (refine nx_op ?_; refine opw_yld (Yld.assign rfl) rfl ?_); all_goals refine nx_nil ?_; all_goals refine kp_code_normal ?_; all_goals refine nx_ret ?_; all_goals refine kp_code_ret ?_) | (all_goals refine nx_skip ?_))
    all_goals refine kp_code_normal ?_
    all_goals refine nx_seq ?_
    all_goals refine nx_seq ?_
    all_goals refine nx_region ?_
    all_goals (refine nx_op ?_; refine opw_yld (Yld.move rfl) rfl ?_)
    all_goals (refine nx_op ?_; refine opw_yld (Yld.indexS rfl rfl hc1) rfl ?_)
    all_goals (refine nx_op ?_; refine opw_yld (Yld.cmp rfl rfl rfl) rfl ?_)
    all_goals refine nx_nil ?_
    all_goals refine kp_code_normal ?_
    all_goals (refine nx_cond rfl (fun hc => ?_) (fun hc => ?_))
    all_goals (first | (exact Bool.noConfusion (hc.symm.trans (by first | rfl | assumption) : true = false)) | (exact Bool.noConfusion (hc.symm.trans (by first | rfl | assumption) : false = true)) | (all_goals refine nx_region ?_; all_goals (refine nx_op ?_; refine opw_yld (Yld.move rfl) rfl ?_); all_goals (refine nx_op ?_; refine opw_yld (Yld.nilCheck rfl) rfl ?_); all_goals (refine nx_op ?_; refine opw_yld (Yld.fieldAddr rfl) rfl ?_); all_goals (refine nx_op ?_; refine opw_store rfl rfl rfl ?_); all_goals refine nx_nil ?_) | (all_goals refine nx_skip ?_))
    all_goals refine kp_code_normal ?_
    all_goals refine nx_seq ?_
    all_goals refine nx_region ?_
    all_goals (refine nx_op ?_; refine opw_yld (Yld.move rfl) rfl ?_)
    all_goals (refine nx_op ?_; (refine opw_call rfl (sp91 path _ (by omega)) inferInstance rfl ?_; rintro _ B ⟨sl, D, rfl, hown, hD⟩; obtain ⟨sa, scap, rfl⟩ := Own_slice hown))
    all_goals (refine nx_op ?_; refine opw_yld (Yld.move rfl) rfl ?_)
    all_goals (refine nx_op ?_; refine opw_yld (Yld.extract rfl rfl) rfl ?_)
    all_goals (refine nx_op ?_; refine opw_yld (Yld.extract rfl rfl) rfl ?_)
    all_goals (refine nx_op ?_; refine opw_yld (Yld.assign rfl) rfl ?_)
    all_goals (refine nx_op ?_; refine opw_yld (Yld.assign rfl) rfl ?_)
    all_goals refine nx_nil ?_
    all_goals refine kp_code_normal ?_
    all_goals refine nx_seq ?_
    all_goals refine nx_seq ?_
    all_goals refine nx_region ?_
    all_goals (refine nx_op ?_; refine opw_yld (Yld.move rfl) rfl ?_)
    all_goals (refine nx_op ?_; refine opw_yld (Yld.lenSlice rfl) rfl ?_)
    all_goals (refine nx_op ?_; refine opw_yld (Yld.move rfl) rfl ?_)
    all_goals refine nx_nil ?_
    all_goals refine kp_code_normal ?_
    all_goals refine nx_block ?_
    refine Nx.flat [B.flatten, [(b6, .cells [.int .i64 0, .string ⟨#[]⟩, .int .i64 0].toArray 33 (0, 0))], [(b, .cells [.pointer (some ⟨T.t, 0, none⟩), .int .i64 dir, .int .i64 (40 - (fuel : Int))].toArray 95 (0, 0))], F] (by simp) ?_
    generalize B.flatten = c at hown
    have hDl : D.length ≤ 100000000 := by
      have h3 := splitB_len 47 (bs path)
      have h4 := List.count_le_length (a := 47) (l := bs path)
      have h5 : (namesB (bs path)).length ≤ (splitB 47 (bs path)).length := List.length_filter_le _ _
      rw [← hD, List.length_map] at h5
      omega
    refine nx_loop (fun fr L m => ∃ i : Nat, i ≤ D.length ∧ m = D.length - i ∧ (∀ s ∈ D.take i, s.size ≤ 255) ∧
        fr = [(0, .pointer (some ⟨b, 0, none⟩)), (2, .bool fol), (6, .pointer (some ⟨b6, 0, none⟩)), (8, .slice sa D.length scap), (9, .bool (hasSuf (bs path) [47])), (33, .slice sa D.length scap), (34, .int .i64 D.length), (35, .int .i64 i)] ∧
        L = [c, [(b6, .cells [.int .i64 0, .string ⟨#[]⟩, .int .i64 0].toArray 33 (0, 0))], [(b, .cells [.pointer (some ⟨T.t, 0, none⟩), .int .i64 dir, .int .i64 (40 - (fuel : Int))].toArray 95 (0, 0))], F])
      (L' := [c, [(b6, .cells [.int .i64 0, .string ⟨#[]⟩, .int .i64 0].toArray 33 (0, 0))], [(b, .cells [.pointer (some ⟨T.t, 0, none⟩), .int .i64 dir, .int .i64 (40 - (fuel : Int))].toArray 95 (0, 0))], F]) ⟨0, by omega, rfl, by simp, rfl, rfl⟩ (by repeat' (first | exact .nil | refine .cons rfl ?_)) inferInstance ?_
    rintro fr L m ⟨i, hi, rfl, hsz, rfl, rfl⟩
    by_cases hlt : i < D.length
    case pos =>
      obtain ⟨bn, cap, tl, hev2, rfl, hcap⟩ := Own_some hown (by omega)
      cases hev2
      have hb3 : decide ((i : Int) < (D.length : Int)) = true := by simp; omega
      have hn1 : NthL (D.map Value.string ++ tl) i (.string D[i]) := ⟨by rw [List.getElem?_append_left (by simpa using hlt)]; simp [List.getElem?_eq_getElem hlt]⟩
      have hmem : bs D[i] ∈ namesB (bs path) := by rw [← hD]; exact List.mem_map_of_mem (List.getElem_mem hlt)
      by_cases h255 : 255 < D[i].size
      · have hb4 : decide ((255 : Int) < (D[i].size : Int)) = true := by simp; omega
        have hr2 : restA (abs T.S) R dir (bs path) fol fuel = .error 36 := by
          unfold restA
          rw [if_pos (List.any_eq_true.2 ⟨_, hmem, by rw [bs_len]; simpa using h255⟩)]
        rw [hr2]
        all_goals refine nx_seq ?_
        all_goals refine nx_region ?_
        all_goals (refine nx_op ?_; refine opw_yld (Yld.cmp rfl rfl rfl) rfl ?_)
        all_goals refine nx_nil ?_
        all_goals refine kp_code_normal ?_
        all_goals refine nx_seq ?_
        all_goals (refine nx_cond rfl (fun hc => ?_) (fun hc => ?_))
        all_goals (first | (exact Bool.noConfusion (hc.symm.trans (by first | rfl | assumption) : true = false)) | (exact Bool.noConfusion (hc.symm.trans (by first | rfl | assumption) : false = true)) | (all_goals refine nx_skip ?_) | (all_goals refine nx_exit ?_; all_goals refine kp_code_exit ?_; all_goals refine kp_loop_exit ?_; all_goals refine kp_blk_exit rfl ?_; all_goals refine kp_code_normal ?_; all_goals refine nx_seq ?_; all_goals refine nx_seq ?_; all_goals refine nx_region ?_; all_goals (refine nx_op ?_; refine opw_yld (Yld.move rfl) rfl ?_); all_goals (refine nx_op ?_; refine opw_yld (Yld.lenSlice rfl) rfl ?_); all_goals (refine nx_op ?_; refine opw_yld (Yld.cmp rfl rfl rfl) rfl ?_); all_goals refine nx_nil ?_; all_goals refine kp_code_normal ?_; all_goals (refine nx_cond rfl (fun hc => ?_) (fun hc => ?_)); all_goals (first | (exact Bool.noConfusion (hc.symm.trans (by first | rfl | assumption) : true = false)) | (exact Bool.noConfusion (hc.symm.trans (by first | rfl | assumption) : false = true)) | (all_goals refine nx_seq ?_; all_goals refine nx_region ?_; all_goals (refine nx_op ?_; refine opw_yld (Yld.build rfl rfl) rfl ?_); all_goals (refine nx_op ?_; refine opw_storeAgg rfl rfl rfl (by simp [Value.oneCell']) ?_); all_goals (refine nx_op ?_; refine opw_yld (Yld.assign rfl) rfl ?_); all_goals refine nx_nil ?_; all_goals refine kp_code_normal ?_; all_goals refine nx_ret ?_; all_goals refine kp_code_ret ?_; all_goals (exact resC2 (by first | exact .inl rfl | exact .inr rfl) Tryd.results41 rfl rfl [wc b T.t dir (40 - (fuel : Int))] inferInstance ⟨dir, _, rfl, by decide, rfl⟩)) | (all_goals refine nx_skip ?_)); all_goals refine kp_code_normal ?_; all_goals refine nx_seq ?_; all_goals refine nx_seq ?_; all_goals refine nx_region ?_; all_goals (refine nx_op ?_; refine opw_yld (Yld.move rfl) rfl ?_); all_goals (refine nx_op ?_; refine opw_yld (Yld.move rfl) rfl ?_); all_goals (refine nx_op ?_; refine opw_yld (Yld.lenSlice rfl) rfl ?_); all_goals (refine nx_op ?_; (first | refine opw_yld (Yld.subI rfl rfl (by omega) (by omega)) rfl ?_ | refine opw_yld (Yld.sub rfl rfl) rfl ?_)); all_goals (refine nx_op ?_; refine opw_yld (Yld.sliceH rfl rfl (by omega)) rfl ?_); all_goals (refine nx_op ?_; refine opw_yld (Yld.lenSlice rfl) rfl ?_); all_goals (refine nx_op ?_; refine opw_yld (Yld.move rfl) rfl ?_); all_goals refine nx_nil ?_; all_goals refine kp_code_normal ?_; all_goals refine nx_block ?_))
        all_goals refine kp_code_normal ?_
        all_goals refine nx_seq ?_
        all_goals refine nx_block ?_
        all_goals refine nx_seq ?_
        all_goals refine nx_region ?_
        all_goals (refine nx_op ?_; refine opw_yld (Yld.indexAddr rfl rfl (by omega)) rfl ?_)
        all_goals (refine nx_op ?_; refine opw_yld (Yld.load rfl) rfl ?_)
        all_goals (refine nx_op ?_; refine opw_yld (Yld.assign rfl) rfl ?_)
        all_goals refine nx_nil ?_
        all_goals refine kp_code_normal ?_
        all_goals refine nx_seq ?_
        all_goals refine nx_region ?_
        all_goals (refine nx_op ?_; refine opw_yld (Yld.move rfl) rfl ?_)
        all_goals (refine nx_op ?_; refine opw_yld (Yld.lenString rfl) rfl ?_)
        all_goals (refine nx_op ?_; refine opw_yld (Yld.cmp rfl rfl rfl) rfl ?_)
        all_goals refine nx_nil ?_
        all_goals refine kp_code_normal ?_
        all_goals (refine nx_cond rfl (fun hc => ?_) (fun hc => ?_))
        all_goals (first | (exact Bool.noConfusion (hc.symm.trans (by first | rfl | assumption) : true = false)) | (exact Bool.noConfusion (hc.symm.trans (by first | rfl | assumption) : false = true)) | (all_goals refine nx_seq ?_; all_goals refine nx_region ?_; all_goals (refine nx_op ?_; refine opw_yld (Yld.build (cs := [.int .i64 0, .string ⟨#[]⟩, .int .i64 0]) rfl rfl) rfl ?_); all_goals (refine nx_op ?_; refine opw_storeAgg rfl rfl rfl (by simp [Value.oneCell']) ?_); all_goals (refine nx_op ?_; refine opw_yld (Yld.assign rfl) rfl ?_); all_goals refine nx_nil ?_; all_goals refine kp_code_normal ?_; all_goals refine nx_ret ?_; all_goals refine kp_blk_ret ?_; all_goals refine kp_code_ret ?_; all_goals refine kp_loop_ret ?_; all_goals refine kp_blk_ret ?_; all_goals refine kp_code_ret ?_; all_goals (exact resC2 (by first | exact .inl rfl | exact .inr rfl) Tryd.results41 rfl rfl [wc b T.t dir (40 - (fuel : Int))] inferInstance ⟨dir, _, rfl, by decide, rfl⟩)) | (all_goals refine nx_skip ?_))
        all_goals refine kp_blk_normal ?_
        all_goals refine kp_code_normal ?_
        all_goals refine nx_region ?_
        all_goals (refine nx_op ?_; fail)
        all_goals (refine nx_op ?_; refine opw_yld (Yld.move rfl) rfl ?_)
        all_goals refine nx_nil ?_
      · have hb4 : decide ((255 : Int) < (D[i].size : Int)) = false := by simp; omega
        all_goals refine nx_seq ?_
        all_goals refine nx_region ?_
        all_goals (refine nx_op ?_; refine opw_yld (Yld.cmp rfl rfl rfl) rfl ?_)
        all_goals refine nx_nil ?_
        all_goals refine kp_code_normal ?_
        all_goals refine nx_seq ?_
        all_goals (refine nx_cond rfl (fun hc => ?_) (fun hc => ?_))
        all_goals (first | (exact Bool.noConfusion (hc.symm.trans (by first | rfl | assumption) : true = false)) | (exact Bool.noConfusion (hc.symm.trans (by first | rfl | assumption) : false = true)) | (all_goals refine nx_skip ?_) | (all_goals refine nx_exit ?_; all_goals refine kp_code_exit ?_; all_goals refine kp_loop_exit ?_; all_goals refine kp_blk_exit rfl ?_; all_goals refine kp_code_normal ?_; all_goals refine nx_seq ?_; all_goals refine nx_seq ?_; all_goals refine nx_region ?_; all_goals (refine nx_op ?_; refine opw_yld (Yld.move rfl) rfl ?_); all_goals (refine nx_op ?_; refine opw_yld (Yld.lenSlice rfl) rfl ?_); all_goals (refine nx_op ?_; refine opw_yld (Yld.cmp rfl rfl rfl) rfl ?_); all_goals refine nx_nil ?_; all_goals refine kp_code_normal ?_; all_goals (refine nx_cond rfl (fun hc => ?_) (fun hc => ?_)); all_goals (first | (exact Bool.noConfusion (hc.symm.trans (by first | rfl | assumption) : true = false)) | (exact Bool.noConfusion (hc.symm.trans (by first | rfl | assumption) : false = true)) | (all_goals refine nx_seq ?_; all_goals refine nx_region ?_; all_goals (refine nx_op ?_; refine opw_yld (Yld.build rfl rfl) rfl ?_); all_goals (refine nx_op ?_; refine opw_storeAgg rfl rfl rfl (by simp [Value.oneCell']) ?_); all_goals (refine nx_op ?_; refine opw_yld (Yld.assign rfl) rfl ?_); all_goals refine nx_nil ?_; all_goals refine kp_code_normal ?_; all_goals refine nx_ret ?_; all_goals refine kp_code_ret ?_; all_goals (fail)) | (all_goals refine nx_skip ?_)); all_goals refine kp_code_normal ?_; all_goals refine nx_seq ?_; all_goals refine nx_seq ?_; all_goals refine nx_region ?_; all_goals (refine nx_op ?_; refine opw_yld (Yld.move rfl) rfl ?_); all_goals (refine nx_op ?_; refine opw_yld (Yld.move rfl) rfl ?_); all_goals (refine nx_op ?_; refine opw_yld (Yld.lenSlice rfl) rfl ?_); all_goals (refine nx_op ?_; (first | refine opw_yld (Yld.subI rfl rfl (by omega) (by omega)) rfl ?_ | refine opw_yld (Yld.sub rfl rfl) rfl ?_)); all_goals (refine nx_op ?_; refine opw_yld (Yld.sliceH rfl rfl (by omega)) rfl ?_); all_goals (refine nx_op ?_; refine opw_yld (Yld.lenSlice rfl) rfl ?_); all_goals (refine nx_op ?_; refine opw_yld (Yld.move rfl) rfl ?_); all_goals refine nx_nil ?_; all_goals refine kp_code_normal ?_; all_goals refine nx_block ?_))
        all_goals refine kp_code_normal ?_
        all_goals refine nx_seq ?_
        all_goals refine nx_block ?_
        all_goals refine nx_seq ?_
        all_goals refine nx_region ?_
        all_goals (refine nx_op ?_; refine opw_yld (Yld.indexAddr rfl rfl (by omega)) rfl ?_)
        all_goals (refine nx_op ?_; refine opw_yld (Yld.load rfl) rfl ?_)
        all_goals (refine nx_op ?_; refine opw_yld (Yld.assign rfl) rfl ?_)
        all_goals refine nx_nil ?_
        all_goals refine kp_code_normal ?_
        all_goals refine nx_seq ?_
        all_goals refine nx_region ?_
        all_goals (refine nx_op ?_; refine opw_yld (Yld.move rfl) rfl ?_)
        all_goals (refine nx_op ?_; refine opw_yld (Yld.lenString rfl) rfl ?_)
        all_goals (refine nx_op ?_; refine opw_yld (Yld.cmp rfl rfl rfl) rfl ?_)
        all_goals refine nx_nil ?_
        all_goals refine kp_code_normal ?_
        all_goals (refine nx_cond rfl (fun hc => ?_) (fun hc => ?_))
        all_goals (first | (exact Bool.noConfusion (hc.symm.trans (by first | rfl | assumption) : true = false)) | (exact Bool.noConfusion (hc.symm.trans (by first | rfl | assumption) : false = true)) | (all_goals refine nx_seq ?_; all_goals refine nx_region ?_; all_goals (refine nx_op ?_; refine opw_yld (Yld.build rfl rfl) rfl ?_); all_goals (refine nx_op ?_; refine opw_storeAgg rfl rfl rfl (by simp [Value.oneCell']) ?_); all_goals (refine nx_op ?_; refine opw_yld (Yld.assign rfl) rfl ?_); all_goals refine nx_nil ?_; all_goals refine kp_code_normal ?_; all_goals refine nx_ret ?_; all_goals refine kp_blk_ret ?_; all_goals refine kp_code_ret ?_; all_goals refine kp_loop_ret ?_; all_goals refine kp_blk_ret ?_; all_goals refine kp_code_ret ?_; all_goals (fail)) | (all_goals refine nx_skip ?_))
        all_goals refine kp_blk_normal ?_
        all_goals refine kp_code_normal ?_
        all_goals refine nx_region ?_
        all_goals (refine nx_op ?_; refine opw_yld (Yld.addI rfl rfl (by omega) (by omega)) rfl ?_)
        all_goals (refine nx_op ?_; refine opw_yld (Yld.move rfl) rfl ?_)
        all_goals refine nx_nil ?_
        refine nx_round (m' := D.length - (i + 1)) (L' := [[(bn, .cells (D.map Value.string ++ tl).toArray 9 (0, 0))], [(b6, .cells [.int .i64 0, .string ⟨#[]⟩, .int .i64 0].toArray 33 (0, 0))], [(b, .cells [.pointer (some ⟨T.t, 0, none⟩), .int .i64 dir, .int .i64 (40 - (fuel : Int))].toArray 95 (0, 0))], F]) ⟨i + 1, by omega, rfl, ?_, rfl, rfl⟩ (by omega) (by repeat' (first | exact .nil | refine .cons rfl ?_)) inferInstance
        intro s hs
        rw [List.take_succ_eq_append_getElem hlt, List.mem_append, List.mem_singleton] at hs
        rcases hs with hs | rfl
        · exact hsz s hs
        · omega
    have hb3 : decide ((i : Int) < (D.length : Int)) = false := by simp; omega
    obtain rfl : i = D.length := by omega
    rw [List.take_length] at hsz
    have hany : ¬ (namesB (bs path)).any (fun s => decide (255 < s.length)) = true := by
      rw [← hD, List.any_eq_true]
      rintro ⟨s, hs, h⟩
      obtain ⟨q, hq, rfl⟩ := List.mem_map.1 hs
      have := hsz q hq
      rw [bs_len] at h
      simp at h; omega
    by_cases h0 : D.length = 0
    case pos =>
      have hb4 : ((D.length : Int) == 0) = true := by simpa using h0
      have hr2 : restA (abs T.S) R dir (bs path) fol fuel = .ok ((1, [46], 1), fuel) := by
        unfold restA
        rw [if_neg hany, if_pos (by rw [← hD, List.eq_nil_of_length_eq_zero h0]; rfl)]
      rw [hr2]
      all_goals refine nx_seq ?_
      all_goals refine nx_region ?_
      all_goals (refine nx_op ?_; refine opw_yld (Yld.cmp rfl rfl rfl) rfl ?_)
      all_goals refine nx_nil ?_
      all_goals refine kp_code_normal ?_
      all_goals refine nx_seq ?_
      all_goals (refine nx_cond rfl (fun hc => ?_) (fun hc => ?_))
      all_goals (first | (exact Bool.noConfusion (hc.symm.trans (by first | rfl | assumption) : true = false)) | (exact Bool.noConfusion (hc.symm.trans (by first | rfl | assumption) : false = true)) | (all_goals refine nx_skip ?_) | (all_goals refine nx_exit ?_; all_goals refine kp_code_exit ?_; all_goals refine kp_loop_exit ?_; all_goals refine kp_blk_exit rfl ?_; all_goals refine kp_code_normal ?_; all_goals refine nx_seq ?_; all_goals refine nx_seq ?_; all_goals refine nx_region ?_; all_goals (refine nx_op ?_; refine opw_yld (Yld.move rfl) rfl ?_); all_goals (refine nx_op ?_; refine opw_yld (Yld.lenSlice rfl) rfl ?_); all_goals (refine nx_op ?_; refine opw_yld (Yld.cmp rfl rfl rfl) rfl ?_); all_goals refine nx_nil ?_; all_goals refine kp_code_normal ?_; all_goals (refine nx_cond rfl (fun hc => ?_) (fun hc => ?_)); all_goals (first | (exact Bool.noConfusion (hc.symm.trans (by first | rfl | assumption) : true = false)) | (exact Bool.noConfusion (hc.symm.trans (by first | rfl | assumption) : false = true)) | (all_goals refine nx_seq ?_; all_goals refine nx_region ?_; all_goals (refine nx_op ?_; refine opw_yld (Yld.build (cs := [.int .i64 1, .string ⟨#[46]⟩, .int .i64 1]) rfl rfl) rfl ?_); all_goals (refine nx_op ?_; refine opw_storeAgg rfl rfl rfl (by simp [Value.oneCell']) ?_); all_goals (refine nx_op ?_; refine opw_yld (Yld.assign rfl) rfl ?_); all_goals refine nx_nil ?_; all_goals refine kp_code_normal ?_; all_goals refine nx_ret ?_; all_goals refine kp_code_ret ?_; all_goals (exact resC2 (by first | exact .inl rfl | exact .inr rfl) Tryd.results41 rfl rfl [wc b T.t dir (40 - (fuel : Int))] inferInstance ⟨dir, _, rfl, rfl, rfl, Nat.le_refl _⟩)) | (all_goals refine nx_skip ?_)); all_goals refine kp_code_normal ?_; all_goals refine nx_seq ?_; all_goals refine nx_seq ?_; all_goals refine nx_region ?_; all_goals (refine nx_op ?_; refine opw_yld (Yld.move rfl) rfl ?_); all_goals (refine nx_op ?_; refine opw_yld (Yld.move rfl) rfl ?_); all_goals (refine nx_op ?_; refine opw_yld (Yld.lenSlice rfl) rfl ?_); all_goals (refine nx_op ?_; (first | refine opw_yld (Yld.subI rfl rfl (by omega) (by omega)) rfl ?_ | refine opw_yld (Yld.sub rfl rfl) rfl ?_)); all_goals (refine nx_op ?_; refine opw_yld (Yld.sliceH rfl rfl (by omega)) rfl ?_); all_goals (refine nx_op ?_; refine opw_yld (Yld.lenSlice rfl) rfl ?_); all_goals (refine nx_op ?_; refine opw_yld (Yld.move rfl) rfl ?_); all_goals refine nx_nil ?_; all_goals refine kp_code_normal ?_; all_goals refine nx_block ?_))
      all_goals refine kp_code_normal ?_
      all_goals refine nx_seq ?_
      all_goals refine nx_block ?_
      all_goals refine nx_seq ?_
      all_goals refine nx_region ?_
      all_goals (refine nx_op ?_; refine opw_yld (Yld.indexAddr rfl rfl (by omega)) rfl ?_)
      all_goals (refine nx_op ?_; refine opw_yld (Yld.load rfl) rfl ?_)
      all_goals (refine nx_op ?_; refine opw_yld (Yld.assign rfl) rfl ?_)
      all_goals refine nx_nil ?_
      all_goals refine kp_code_normal ?_
      all_goals refine nx_seq ?_
      all_goals refine nx_region ?_
      all_goals (refine nx_op ?_; refine opw_yld (Yld.move rfl) rfl ?_)
      all_goals (refine nx_op ?_; refine opw_yld (Yld.lenString rfl) rfl ?_)
      all_goals (refine nx_op ?_; refine opw_yld (Yld.cmp rfl rfl rfl) rfl ?_)
      all_goals refine nx_nil ?_
      all_goals refine kp_code_normal ?_
      all_goals (refine nx_cond rfl (fun hc => ?_) (fun hc => ?_))
      all_goals (first | (exact Bool.noConfusion (hc.symm.trans (by first | rfl | assumption) : true = false)) | (exact Bool.noConfusion (hc.symm.trans (by first | rfl | assumption) : false = true)) | (all_goals refine nx_seq ?_; all_goals refine nx_region ?_; all_goals (refine nx_op ?_; refine opw_yld (Yld.build rfl rfl) rfl ?_); all_goals (refine nx_op ?_; refine opw_storeAgg rfl rfl rfl (by simp [Value.oneCell']) ?_); all_goals (refine nx_op ?_; refine opw_yld (Yld.assign rfl) rfl ?_); all_goals refine nx_nil ?_; all_goals refine kp_code_normal ?_; all_goals refine nx_ret ?_; all_goals refine kp_blk_ret ?_; all_goals refine kp_code_ret ?_; all_goals refine kp_loop_ret ?_; all_goals refine kp_blk_ret ?_; all_goals refine kp_code_ret ?_; all_goals (exact resC2 (by first | exact .inl rfl | exact .inr rfl) Tryd.results41 rfl rfl [wc b T.t dir (40 - (fuel : Int))] inferInstance ⟨dir, _, rfl, rfl, rfl, Nat.le_refl _⟩)) | (all_goals refine nx_skip ?_))
      all_goals refine kp_blk_normal ?_
      all_goals refine kp_code_normal ?_
      all_goals refine nx_region ?_
      all_goals (refine nx_op ?_; fail)
      all_goals (refine nx_op ?_; refine opw_yld (Yld.move rfl) rfl ?_)
      all_goals refine nx_nil ?_
    have hb4 : ((D.length : Int) == 0) = false := by simpa using h0
    obtain ⟨bn, cap, tl, hev2, rfl, hcap⟩ := Own_some hown (by omega)
    cases hev2
    have hne : namesB (bs path) ≠ [] := by rw [← hD]; intro h; apply h0; simpa using congrArg List.length h
    have hto : ToN ((D.length : Int) - 1) (D.length - 1) := ⟨by omega⟩
    have hr2 : restA (abs T.S) R dir (bs path) fol fuel = (match stepsA (abs T.S) R dir (D.map bs).dropLast fuel with
        | .error e => .error e
        | .ok (d, k) => lastA (abs T.S) R d ((D.map bs).getLastD []) fol (hasSuf (bs path) [47]) k) := by
      unfold restA
      rw [if_neg hany, if_neg hne, ← hD]
    rw [hr2]
    generalize hst : stepsA (abs T.S) R dir (D.map bs).dropLast fuel = st
    have hl1 : ((D.length : Int) - 1) = ((D.length - 1 : Nat) : Int) := by omega
    all_goals refine nx_seq ?_
    all_goals refine nx_region ?_
    all_goals (refine nx_op ?_; refine opw_yld (Yld.cmp rfl rfl rfl) rfl ?_)
    all_goals refine nx_nil ?_
    all_goals refine kp_code_normal ?_
    all_goals refine nx_seq ?_
    all_goals (refine nx_cond rfl (fun hc => ?_) (fun hc => ?_))
    all_goals (first | (exact Bool.noConfusion (hc.symm.trans (by first | rfl | assumption) : true = false)) | (exact Bool.noConfusion (hc.symm.trans (by first | rfl | assumption) : false = true)) | (all_goals refine nx_skip ?_) | (all_goals refine nx_exit ?_; all_goals refine kp_code_exit ?_; all_goals refine kp_loop_exit ?_; all_goals refine kp_blk_exit rfl ?_; all_goals refine kp_code_normal ?_; all_goals refine nx_seq ?_; all_goals refine nx_seq ?_; all_goals refine nx_region ?_; all_goals (refine nx_op ?_; refine opw_yld (Yld.move rfl) rfl ?_); all_goals (refine nx_op ?_; refine opw_yld (Yld.lenSlice rfl) rfl ?_); all_goals (refine nx_op ?_; refine opw_yld (Yld.cmp rfl rfl rfl) rfl ?_); all_goals refine nx_nil ?_; all_goals refine kp_code_normal ?_; all_goals (refine nx_cond rfl (fun hc => ?_) (fun hc => ?_)); all_goals (first | (exact Bool.noConfusion (hc.symm.trans (by first | rfl | assumption) : true = false)) | (exact Bool.noConfusion (hc.symm.trans (by first | rfl | assumption) : false = true)) | (all_goals refine nx_seq ?_; all_goals refine nx_region ?_; all_goals (refine nx_op ?_; refine opw_yld (Yld.build rfl rfl) rfl ?_); all_goals (refine nx_op ?_; refine opw_storeAgg rfl rfl rfl (by simp [Value.oneCell']) ?_); all_goals (refine nx_op ?_; refine opw_yld (Yld.assign rfl) rfl ?_); all_goals refine nx_nil ?_; all_goals refine kp_code_normal ?_; all_goals refine nx_ret ?_; all_goals refine kp_code_ret ?_; all_goals (fail)) | (all_goals refine nx_skip ?_)); all_goals refine kp_code_normal ?_; all_goals refine nx_seq ?_; all_goals refine nx_seq ?_; all_goals refine nx_region ?_; all_goals (refine nx_op ?_; refine opw_yld (Yld.move rfl) rfl ?_); all_goals (refine nx_op ?_; refine opw_yld (Yld.move rfl) rfl ?_); all_goals (refine nx_op ?_; refine opw_yld (Yld.lenSlice rfl) rfl ?_); all_goals (refine nx_op ?_; refine opw_yld (Yld.subI rfl rfl (by omega) (by omega)) rfl ?_; rw [hl1]); all_goals (refine nx_op ?_; refine opw_yld (Yld.sliceH rfl rfl (by omega)) rfl ?_); all_goals (refine nx_op ?_; refine opw_yld (Yld.lenSlice rfl) rfl ?_); all_goals (refine nx_op ?_; refine opw_yld (Yld.move rfl) rfl ?_); all_goals refine nx_nil ?_; all_goals refine kp_code_normal ?_; all_goals refine nx_block ?_))
    refine nx_loop (fun fr L m => ∃ (i : Nat) (d2 : Int) (k2 : Nat), i ≤ D.length - 1 ∧ m = D.length - 1 - i ∧ k2 ≤ fuel ∧ stepsA (abs T.S) R d2 ((D.map bs).dropLast.drop i) k2 = st ∧
        fr = [(0, .pointer (some ⟨b, 0, none⟩)), (2, .bool fol), (6, .pointer (some ⟨b6, 0, none⟩)), (8, .slice (some ⟨bn, 0, none⟩) D.length scap), (9, .bool (hasSuf (bs path) [47])), (52, .slice (some ⟨bn, 0, none⟩) (D.length - 1) scap), (53, .int .i64 (D.length - 1 : Nat)), (54, .int .i64 i)] ∧
        L = [[(bn, .cells (D.map Value.string ++ tl).toArray 9 (0, 0))], [(b6, .cells [.int .i64 0, .string ⟨#[]⟩, .int .i64 0].toArray 33 (0, 0))], [(b, .cells [.pointer (some ⟨T.t, 0, none⟩), .int .i64 d2, .int .i64 (40 - (k2 : Int))].toArray 95 (0, 0))], F])
      (L' := [[(bn, .cells (D.map Value.string ++ tl).toArray 9 (0, 0))], [(b6, .cells [.int .i64 0, .string ⟨#[]⟩, .int .i64 0].toArray 33 (0, 0))], [(b, .cells [.pointer (some ⟨T.t, 0, none⟩), .int .i64 dir, .int .i64 (40 - (fuel : Int))].toArray 95 (0, 0))], F]) ⟨0, dir, fuel, by omega, rfl, Nat.le_refl _, hst, rfl, rfl⟩ (by repeat' (first | exact .nil | refine .cons rfl ?_)) inferInstance ?_
    rintro fr L m ⟨i, d2, k2, hi, rfl, hk2, hst2, rfl, rfl⟩
    have hin : i < D.length := by omega
    have hn1 : NthL (D.map Value.string ++ tl) i (.string D[i]) := ⟨by rw [List.getElem?_append_left (by simpa using hin)]; simp [List.getElem?_eq_getElem hin]⟩
    have hsb : ∀ F', InT F' T → Sp Tryd.prog 92 [.pointer (some ⟨b, 0, none⟩), .string D[i]] F' [wc b T.t d2 (40 - (k2 : Int))] (SPost b T.t k2 (stepA (abs T.S) R d2 (bs D[i]) k2)) := fun F' h => sp92 hR h d2 D[i] k2 (by omega) hN
    by_cases hlt : i < D.length - 1
    case neg =>
      have hb5 : decide ((i : Int) < ((D.length - 1 : Nat) : Int)) = false := by simp; omega
      obtain rfl : i = D.length - 1 := by omega
      have hdn : (D.map bs).dropLast.drop (D.length - 1) = [] := List.drop_eq_nil_of_le (by simp)
      rw [hdn] at hst2
      obtain rfl : st = .ok (d2, k2) := hst2.symm
      have hgl : (D.map bs).getLastD [] = bs D[D.length - 1] := by rw [getLastD_eq (i := D.length - 1) (by simp; omega)]; simp
      rw [hgl]
      dsimp only
      have h93 : ∀ F', InT F' T → Sp Tryd.prog 93 [.pointer (some ⟨b, 0, none⟩), .string D[D.length - 1], .bool fol, .bool (hasSuf (bs path) [47])] F' [wc b T.t d2 (40 - (k2 : Int))] (WPost b T.t k2 (lastA (abs T.S) R d2 (bs D[D.length - 1]) fol (hasSuf (bs path) [47]) k2)) := fun F' h => sp93 hR h d2 _ fol _ k2 (by omega) hN
      generalize lastA (abs T.S) R d2 (bs D[D.length - 1]) fol (hasSuf (bs path) [47]) k2 = r at h93 ⊢
      all_goals refine nx_seq ?_
      all_goals refine nx_region ?_
      all_goals (refine nx_op ?_; refine opw_yld (Yld.cmp rfl rfl rfl) rfl ?_)
      all_goals refine nx_nil ?_
      all_goals refine kp_code_normal ?_
      all_goals refine nx_seq ?_
      all_goals (refine nx_cond rfl (fun hc => ?_) (fun hc => ?_))
      all_goals (first | (exact Bool.noConfusion (hc.symm.trans (by first | rfl | assumption) : true = false)) | (exact Bool.noConfusion (hc.symm.trans (by first | rfl | assumption) : false = true)) | (all_goals refine nx_skip ?_) | (all_goals refine nx_exit ?_; all_goals refine kp_code_exit ?_; all_goals refine kp_loop_exit ?_; all_goals refine kp_blk_exit rfl ?_; all_goals refine kp_code_normal ?_; all_goals refine nx_seq ?_; all_goals refine nx_region ?_; all_goals (refine nx_op ?_; refine opw_yld (Yld.move rfl) rfl ?_); all_goals (refine nx_op ?_; refine opw_yld (Yld.move rfl) rfl ?_); all_goals (refine nx_op ?_; refine opw_yld (Yld.move rfl) rfl ?_); all_goals (refine nx_op ?_; refine opw_yld (Yld.lenSlice rfl) rfl ?_); all_goals (refine nx_op ?_; refine opw_yld (Yld.subI rfl rfl (by omega) (by omega)) rfl ?_; rw [hl1]); all_goals (refine nx_op ?_; refine opw_yld (Yld.indexAddr rfl rfl (by omega)) rfl ?_); all_goals (refine nx_op ?_; refine opw_yld (Yld.load rfl) rfl ?_); all_goals (refine nx_op ?_; refine opw_yld (Yld.move rfl) rfl ?_); all_goals (refine nx_op ?_; refine opw_yld (Yld.move rfl) rfl ?_); all_goals (refine nx_op ?_; (refine opw_call rfl (h93 _ (hT.mono (by simp +contextual))) inferInstance rfl ?_; rintro v B ⟨d', l', rfl, h⟩; simp only [List.cons_append, List.nil_append, wc]; rcases r with e | ⟨⟨f1, f2, f3⟩, k⟩; all_goals (first | (obtain ⟨h1, rfl⟩ := h; simp only [foZ]) | (obtain ⟨rfl, h1, h2⟩ := h; simp only [foV])))); all_goals (refine nx_op ?_; refine opw_yld (Yld.extract rfl rfl) rfl ?_); all_goals (refine nx_op ?_; refine opw_yld (Yld.extract rfl rfl) rfl ?_); all_goals (refine nx_op ?_; refine opw_storeAgg rfl rfl rfl (by simp [Value.oneCell']) ?_); all_goals (refine nx_op ?_; refine opw_yld (Yld.assign rfl) rfl ?_); all_goals refine nx_nil ?_; all_goals refine kp_code_normal ?_; all_goals refine nx_ret ?_; all_goals (first | exact resC2 (by first | exact .inl rfl | exact .inr rfl) Tryd.results41 rfl rfl [wc b T.t d' l'] inferInstance ⟨d', l', rfl, h1, rfl⟩ | exact resC2 (by first | exact .inl rfl | exact .inr rfl) Tryd.results41 rfl rfl [wc b T.t d' l'] inferInstance ⟨d', l', rfl, rfl, h1, by omega⟩)))
      all_goals refine kp_code_normal ?_
      all_goals refine nx_seq ?_
      all_goals refine nx_block ?_
      all_goals refine nx_seq ?_
      all_goals refine nx_region ?_
      all_goals (refine nx_op ?_; refine opw_yld (Yld.indexAddr rfl rfl (by omega)) rfl ?_)
      all_goals (refine nx_op ?_; refine opw_yld (Yld.load rfl) rfl ?_)
      all_goals (refine nx_op ?_; refine opw_yld (Yld.assign rfl) rfl ?_)
      all_goals refine nx_nil ?_
      all_goals refine kp_code_normal ?_
      all_goals refine nx_seq ?_
      all_goals refine nx_region ?_
      all_goals (refine nx_op ?_; refine opw_yld (Yld.move rfl) rfl ?_)
      all_goals (refine nx_op ?_; refine opw_yld (Yld.move rfl) rfl ?_)
      all_goals (refine nx_op ?_; (fail))
      all_goals (refine nx_op ?_; refine opw_yld (Yld.assign rfl) rfl ?_)
      all_goals refine nx_nil ?_
      all_goals refine kp_code_normal ?_
      all_goals refine nx_seq ?_
      all_goals refine nx_region ?_
      all_goals (refine nx_op ?_; refine opw_yld (Yld.move rfl) rfl ?_)
      all_goals (refine nx_op ?_; refine opw_yld (Yld.cmp rfl rfl rfl) rfl ?_)
      all_goals refine nx_nil ?_
      all_goals refine kp_code_normal ?_
      all_goals (refine nx_cond rfl (fun hc => ?_) (fun hc => ?_))
      all_goals (first | (exact Bool.noConfusion (hc.symm.trans (by first | rfl | assumption) : true = false)) | (exact Bool.noConfusion (hc.symm.trans (by first | rfl | assumption) : false = true)) | (all_goals refine nx_seq ?_; all_goals refine nx_region ?_; all_goals (refine nx_op ?_; refine opw_yld (Yld.build rfl rfl) rfl ?_); all_goals (refine nx_op ?_; refine opw_yld (Yld.move rfl) rfl ?_); all_goals (refine nx_op ?_; refine opw_storeAgg rfl rfl rfl (by simp [Value.oneCell']) ?_); all_goals (refine nx_op ?_; refine opw_yld (Yld.assign rfl) rfl ?_); all_goals refine nx_nil ?_; all_goals refine kp_code_normal ?_; all_goals refine nx_ret ?_; all_goals refine kp_blk_ret ?_; all_goals refine kp_code_ret ?_; all_goals refine kp_loop_ret ?_; all_goals refine kp_blk_ret ?_; all_goals refine kp_code_ret ?_; all_goals (first | exact resC2 (by first | exact .inl rfl | exact .inr rfl) Tryd.results41 rfl rfl [wc b T.t d' l'] inferInstance ⟨d', l', rfl, h1, rfl⟩ | exact resC2 (by first | exact .inl rfl | exact .inr rfl) Tryd.results41 rfl rfl [wc b T.t d' l'] inferInstance ⟨d', l', rfl, rfl, h1, by omega⟩)) | (all_goals refine nx_skip ?_))
      all_goals refine kp_blk_normal ?_
      all_goals refine kp_code_normal ?_
      all_goals refine nx_region ?_
      all_goals (refine nx_op ?_; (first | refine opw_yld (Yld.addI rfl rfl (by omega) (by omega)) rfl ?_ | refine opw_yld (Yld.add rfl rfl) rfl ?_))
      all_goals (refine nx_op ?_; refine opw_yld (Yld.move rfl) rfl ?_)
      all_goals refine nx_nil ?_
    have hb5 : decide ((i : Int) < ((D.length - 1 : Nat) : Int)) = true := by simp; omega
    have hdn : (D.map bs).dropLast.drop i = bs D[i] :: (D.map bs).dropLast.drop (i + 1) := by
      rw [List.drop_eq_getElem_cons (by simpa using hlt)]; simp
    rw [hdn, stepsA] at hst2
    generalize stepA (abs T.S) R d2 (bs D[i]) k2 = r at hsb hst2
    rcases r with e | ⟨d3, k3⟩
    case error =>
      obtain rfl : st = .error e := hst2.symm
      dsimp only
      by_cases he : e = 0
      · subst he
        all_goals refine nx_seq ?_
        all_goals refine nx_region ?_
        all_goals (refine nx_op ?_; refine opw_yld (Yld.cmp rfl rfl rfl) rfl ?_)
        all_goals refine nx_nil ?_
        all_goals refine kp_code_normal ?_
        all_goals refine nx_seq ?_
        all_goals (refine nx_cond rfl (fun hc => ?_) (fun hc => ?_))
        all_goals (first | (exact Bool.noConfusion (hc.symm.trans (by first | rfl | assumption) : true = false)) | (exact Bool.noConfusion (hc.symm.trans (by first | rfl | assumption) : false = true)) | (all_goals refine nx_skip ?_) | (all_goals refine nx_exit ?_; all_goals refine kp_code_exit ?_; all_goals refine kp_loop_exit ?_; all_goals refine kp_blk_exit rfl ?_; all_goals refine kp_code_normal ?_; all_goals refine nx_seq ?_; all_goals refine nx_region ?_; all_goals (refine nx_op ?_; refine opw_yld (Yld.move rfl) rfl ?_); all_goals (refine nx_op ?_; refine opw_yld (Yld.move rfl) rfl ?_); all_goals (refine nx_op ?_; refine opw_yld (Yld.move rfl) rfl ?_); all_goals (refine nx_op ?_; refine opw_yld (Yld.lenSlice rfl) rfl ?_); all_goals (refine nx_op ?_; (first | refine opw_yld (Yld.subI rfl rfl (by omega) (by omega)) rfl ?_ | refine opw_yld (Yld.sub rfl rfl) rfl ?_)); all_goals (refine nx_op ?_; refine opw_yld (Yld.indexAddr rfl rfl (by omega)) rfl ?_); all_goals (refine nx_op ?_; refine opw_yld (Yld.load rfl) rfl ?_); all_goals (refine nx_op ?_; refine opw_yld (Yld.move rfl) rfl ?_); all_goals (refine nx_op ?_; refine opw_yld (Yld.move rfl) rfl ?_); all_goals (refine nx_op ?_; (fail)); all_goals (refine nx_op ?_; refine opw_yld (Yld.extract rfl rfl) rfl ?_); all_goals (refine nx_op ?_; refine opw_yld (Yld.extract rfl rfl) rfl ?_); all_goals (refine nx_op ?_; refine opw_storeAgg rfl rfl rfl (by simp [Value.oneCell']) ?_); all_goals (refine nx_op ?_; refine opw_yld (Yld.assign rfl) rfl ?_); all_goals refine nx_nil ?_; all_goals refine kp_code_normal ?_; all_goals refine nx_ret ?_))
        all_goals refine kp_code_normal ?_
        all_goals refine nx_seq ?_
        all_goals refine nx_block ?_
        all_goals refine nx_seq ?_
        all_goals refine nx_region ?_
        all_goals (refine nx_op ?_; refine opw_yld (Yld.indexAddr rfl rfl (by omega)) rfl ?_)
        all_goals (refine nx_op ?_; refine opw_yld (Yld.load rfl) rfl ?_)
        all_goals (refine nx_op ?_; refine opw_yld (Yld.assign rfl) rfl ?_)
        all_goals refine nx_nil ?_
        all_goals refine kp_code_normal ?_
        all_goals refine nx_seq ?_
        all_goals refine nx_region ?_
        all_goals (refine nx_op ?_; refine opw_yld (Yld.move rfl) rfl ?_)
        all_goals (refine nx_op ?_; refine opw_yld (Yld.move rfl) rfl ?_)
        all_goals (refine nx_op ?_; (refine opw_call rfl (hsb _ (hT.mono (by simp +contextual))) inferInstance rfl ?_; rintro v B ⟨d', l', rfl, h⟩; exact absurd rfl h.1))
        all_goals (refine nx_op ?_; refine opw_yld (Yld.assign rfl) rfl ?_)
        all_goals refine nx_nil ?_
        all_goals refine kp_code_normal ?_
        all_goals refine nx_seq ?_
        all_goals refine nx_region ?_
        all_goals (refine nx_op ?_; refine opw_yld (Yld.move rfl) rfl ?_)
        all_goals (refine nx_op ?_; refine opw_yld (Yld.cmp rfl rfl rfl) rfl ?_)
        all_goals refine nx_nil ?_
        all_goals refine kp_code_normal ?_
        all_goals (refine nx_cond rfl (fun hc => ?_) (fun hc => ?_))
        all_goals (first | (exact Bool.noConfusion (hc.symm.trans (by first | rfl | assumption) : true = false)) | (exact Bool.noConfusion (hc.symm.trans (by first | rfl | assumption) : false = true)) | (all_goals refine nx_seq ?_; all_goals refine nx_region ?_; all_goals (refine nx_op ?_; refine opw_yld (Yld.build rfl rfl) rfl ?_); all_goals (refine nx_op ?_; refine opw_yld (Yld.move rfl) rfl ?_); all_goals (refine nx_op ?_; refine opw_storeAgg rfl rfl rfl (by simp [Value.oneCell']) ?_); all_goals (refine nx_op ?_; refine opw_yld (Yld.assign rfl) rfl ?_); all_goals refine nx_nil ?_; all_goals refine kp_code_normal ?_; all_goals refine nx_ret ?_; all_goals refine kp_blk_ret ?_; all_goals refine kp_code_ret ?_; all_goals refine kp_loop_ret ?_; all_goals refine kp_blk_ret ?_; all_goals refine kp_code_ret ?_) | (all_goals refine nx_skip ?_))
        all_goals refine kp_blk_normal ?_
        all_goals refine kp_code_normal ?_
        all_goals refine nx_region ?_
        all_goals (refine nx_op ?_; (first | refine opw_yld (Yld.addI rfl rfl (by omega) (by omega)) rfl ?_ | refine opw_yld (Yld.add rfl rfl) rfl ?_))
        all_goals (refine nx_op ?_; refine opw_yld (Yld.move rfl) rfl ?_)
        all_goals refine nx_nil ?_
      have hb6 : (e != 0) = true := by simpa using he
      all_goals refine nx_seq ?_
      all_goals refine nx_region ?_
      all_goals (refine nx_op ?_; refine opw_yld (Yld.cmp rfl rfl rfl) rfl ?_)
      all_goals refine nx_nil ?_
      all_goals refine kp_code_normal ?_
      all_goals refine nx_seq ?_
      all_goals (refine nx_cond rfl (fun hc => ?_) (fun hc => ?_))
      all_goals (first | (exact Bool.noConfusion (hc.symm.trans (by first | rfl | assumption) : true = false)) | (exact Bool.noConfusion (hc.symm.trans (by first | rfl | assumption) : false = true)) | (all_goals refine nx_skip ?_) | (all_goals refine nx_exit ?_; all_goals refine kp_code_exit ?_; all_goals refine kp_loop_exit ?_; all_goals refine kp_blk_exit rfl ?_; all_goals refine kp_code_normal ?_; all_goals refine nx_seq ?_; all_goals refine nx_region ?_; all_goals (refine nx_op ?_; refine opw_yld (Yld.move rfl) rfl ?_); all_goals (refine nx_op ?_; refine opw_yld (Yld.move rfl) rfl ?_); all_goals (refine nx_op ?_; refine opw_yld (Yld.move rfl) rfl ?_); all_goals (refine nx_op ?_; refine opw_yld (Yld.lenSlice rfl) rfl ?_); all_goals (refine nx_op ?_; (first | refine opw_yld (Yld.subI rfl rfl (by omega) (by omega)) rfl ?_ | refine opw_yld (Yld.sub rfl rfl) rfl ?_)); all_goals (refine nx_op ?_; refine opw_yld (Yld.indexAddr rfl rfl (by omega)) rfl ?_); all_goals (refine nx_op ?_; refine opw_yld (Yld.load rfl) rfl ?_); all_goals (refine nx_op ?_; refine opw_yld (Yld.move rfl) rfl ?_); all_goals (refine nx_op ?_; refine opw_yld (Yld.move rfl) rfl ?_); all_goals (refine nx_op ?_; (fail)); all_goals (refine nx_op ?_; refine opw_yld (Yld.extract rfl rfl) rfl ?_); all_goals (refine nx_op ?_; refine opw_yld (Yld.extract rfl rfl) rfl ?_); all_goals (refine nx_op ?_; refine opw_storeAgg rfl rfl rfl (by simp [Value.oneCell']) ?_); all_goals (refine nx_op ?_; refine opw_yld (Yld.assign rfl) rfl ?_); all_goals refine nx_nil ?_; all_goals refine kp_code_normal ?_; all_goals refine nx_ret ?_; all_goals (exact resC2 (by first | exact .inl rfl | exact .inr rfl) Tryd.results41 rfl rfl [wc b T.t d' l'] inferInstance ⟨d', l', rfl, he, rfl⟩)))
      all_goals refine kp_code_normal ?_
      all_goals refine nx_seq ?_
      all_goals refine nx_block ?_
      all_goals refine nx_seq ?_
      all_goals refine nx_region ?_
      all_goals (refine nx_op ?_; refine opw_yld (Yld.indexAddr rfl rfl (by omega)) rfl ?_)
      all_goals (refine nx_op ?_; refine opw_yld (Yld.load rfl) rfl ?_)
      all_goals (refine nx_op ?_; refine opw_yld (Yld.assign rfl) rfl ?_)
      all_goals refine nx_nil ?_
      all_goals refine kp_code_normal ?_
      all_goals refine nx_seq ?_
      all_goals refine nx_region ?_
      all_goals (refine nx_op ?_; refine opw_yld (Yld.move rfl) rfl ?_)
      all_goals (refine nx_op ?_; refine opw_yld (Yld.move rfl) rfl ?_)
      all_goals (refine nx_op ?_; (refine opw_call rfl (hsb _ (hT.mono (by simp +contextual))) inferInstance rfl ?_; rintro v B ⟨d', l', rfl, h1, rfl⟩; simp only [List.cons_append, List.nil_append, wc]))
      all_goals (refine nx_op ?_; refine opw_yld (Yld.assign rfl) rfl ?_)
      all_goals refine nx_nil ?_
      all_goals refine kp_code_normal ?_
      all_goals refine nx_seq ?_
      all_goals refine nx_region ?_
      all_goals (refine nx_op ?_; refine opw_yld (Yld.move rfl) rfl ?_)
      all_goals (refine nx_op ?_; refine opw_yld (Yld.cmp rfl rfl rfl) rfl ?_)
      all_goals refine nx_nil ?_
      all_goals refine kp_code_normal ?_
      all_goals (refine nx_cond rfl (fun hc => ?_) (fun hc => ?_))
      all_goals (first | (exact Bool.noConfusion (hc.symm.trans (by first | rfl | assumption) : true = false)) | (exact Bool.noConfusion (hc.symm.trans (by first | rfl | assumption) : false = true)) | (all_goals refine nx_seq ?_; all_goals refine nx_region ?_; all_goals (refine nx_op ?_; refine opw_yld (Yld.build (cs := [.int .i64 0, .string ⟨#[]⟩, .int .i64 0]) rfl rfl) rfl ?_); all_goals (refine nx_op ?_; refine opw_yld (Yld.move rfl) rfl ?_); all_goals (refine nx_op ?_; refine opw_storeAgg rfl rfl rfl (by simp [Value.oneCell']) ?_); all_goals (refine nx_op ?_; refine opw_yld (Yld.assign rfl) rfl ?_); all_goals refine nx_nil ?_; all_goals refine kp_code_normal ?_; all_goals refine nx_ret ?_; all_goals refine kp_blk_ret ?_; all_goals refine kp_code_ret ?_; all_goals refine kp_loop_ret ?_; all_goals refine kp_blk_ret ?_; all_goals refine kp_code_ret ?_; all_goals (exact resC2 (by first | exact .inl rfl | exact .inr rfl) Tryd.results41 rfl rfl [wc b T.t d' l'] inferInstance ⟨d', l', rfl, he, rfl⟩)) | (all_goals refine nx_skip ?_))
      all_goals refine kp_blk_normal ?_
      all_goals refine kp_code_normal ?_
      all_goals refine nx_region ?_
      all_goals (refine nx_op ?_; fail)
      all_goals (refine nx_op ?_; refine opw_yld (Yld.move rfl) rfl ?_)
      all_goals refine nx_nil ?_
    all_goals refine nx_seq ?_
    all_goals refine nx_region ?_
    all_goals (refine nx_op ?_; refine opw_yld (Yld.cmp rfl rfl rfl) rfl ?_)
    all_goals refine nx_nil ?_
    all_goals refine kp_code_normal ?_
    all_goals refine nx_seq ?_
    all_goals (refine nx_cond rfl (fun hc => ?_) (fun hc => ?_))
    all_goals (first | (exact Bool.noConfusion (hc.symm.trans (by first | rfl | assumption) : true = false)) | (exact Bool.noConfusion (hc.symm.trans (by first | rfl | assumption) : false = true)) | (all_goals refine nx_skip ?_) | (all_goals refine nx_exit ?_; all_goals refine kp_code_exit ?_; all_goals refine kp_loop_exit ?_; all_goals refine kp_blk_exit rfl ?_; all_goals refine kp_code_normal ?_; all_goals refine nx_seq ?_; all_goals refine nx_region ?_; all_goals (refine nx_op ?_; refine opw_yld (Yld.move rfl) rfl ?_); all_goals (refine nx_op ?_; refine opw_yld (Yld.move rfl) rfl ?_); all_goals (refine nx_op ?_; refine opw_yld (Yld.move rfl) rfl ?_); all_goals (refine nx_op ?_; refine opw_yld (Yld.lenSlice rfl) rfl ?_); all_goals (refine nx_op ?_; (first | refine opw_yld (Yld.subI rfl rfl (by omega) (by omega)) rfl ?_ | refine opw_yld (Yld.sub rfl rfl) rfl ?_)); all_goals (refine nx_op ?_; refine opw_yld (Yld.indexAddr rfl rfl (by omega)) rfl ?_); all_goals (refine nx_op ?_; refine opw_yld (Yld.load rfl) rfl ?_); all_goals (refine nx_op ?_; refine opw_yld (Yld.move rfl) rfl ?_); all_goals (refine nx_op ?_; refine opw_yld (Yld.move rfl) rfl ?_); all_goals (refine nx_op ?_; (fail)); all_goals (refine nx_op ?_; refine opw_yld (Yld.extract rfl rfl) rfl ?_); all_goals (refine nx_op ?_; refine opw_yld (Yld.extract rfl rfl) rfl ?_); all_goals (refine nx_op ?_; refine opw_storeAgg rfl rfl rfl (by simp [Value.oneCell']) ?_); all_goals (refine nx_op ?_; refine opw_yld (Yld.assign rfl) rfl ?_); all_goals refine nx_nil ?_; all_goals refine kp_code_normal ?_; all_goals refine nx_ret ?_; all_goals (fail)))
    all_goals refine kp_code_normal ?_
    all_goals refine nx_seq ?_
    all_goals refine nx_block ?_
    all_goals refine nx_seq ?_
    all_goals refine nx_region ?_
    all_goals (refine nx_op ?_; refine opw_yld (Yld.indexAddr rfl rfl (by omega)) rfl ?_)
    all_goals (refine nx_op ?_; refine opw_yld (Yld.load rfl) rfl ?_)
    all_goals (refine nx_op ?_; refine opw_yld (Yld.assign rfl) rfl ?_)
    all_goals refine nx_nil ?_
    all_goals refine kp_code_normal ?_
    all_goals refine nx_seq ?_
    all_goals refine nx_region ?_
    all_goals (refine nx_op ?_; refine opw_yld (Yld.move rfl) rfl ?_)
    all_goals (refine nx_op ?_; refine opw_yld (Yld.move rfl) rfl ?_)
    all_goals (refine nx_op ?_; (refine opw_call rfl (hsb _ (hT.mono (by simp +contextual))) inferInstance rfl ?_; rintro v B ⟨d', l', rfl, rfl, h1, h2, h3⟩; simp only [List.cons_append, List.nil_append, wc]; subst h1; subst h2))
    all_goals (refine nx_op ?_; refine opw_yld (Yld.assign rfl) rfl ?_)
    all_goals refine nx_nil ?_
    all_goals refine kp_code_normal ?_
    all_goals refine nx_seq ?_
    all_goals refine nx_region ?_
    all_goals (refine nx_op ?_; refine opw_yld (Yld.move rfl) rfl ?_)
    all_goals (refine nx_op ?_; refine opw_yld (Yld.cmp rfl rfl rfl) rfl ?_)
    all_goals refine nx_nil ?_
    all_goals refine kp_code_normal ?_
    all_goals (refine nx_cond rfl (fun hc => ?_) (fun hc => ?_))
    all_goals (first | (exact Bool.noConfusion (hc.symm.trans (by first | rfl | assumption) : true = false)) | (exact Bool.noConfusion (hc.symm.trans (by first | rfl | assumption) : false = true)) | (all_goals refine nx_seq ?_; all_goals refine nx_region ?_; all_goals (refine nx_op ?_; refine opw_yld (Yld.build rfl rfl) rfl ?_); all_goals (refine nx_op ?_; refine opw_yld (Yld.move rfl) rfl ?_); all_goals (refine nx_op ?_; refine opw_storeAgg rfl rfl rfl (by simp [Value.oneCell']) ?_); all_goals (refine nx_op ?_; refine opw_yld (Yld.assign rfl) rfl ?_); all_goals refine nx_nil ?_; all_goals refine kp_code_normal ?_; all_goals refine nx_ret ?_; all_goals refine kp_blk_ret ?_; all_goals refine kp_code_ret ?_; all_goals refine kp_loop_ret ?_; all_goals refine kp_blk_ret ?_; all_goals refine kp_code_ret ?_; all_goals (fail)) | (all_goals refine nx_skip ?_))
    all_goals refine kp_blk_normal ?_
    all_goals refine kp_code_normal ?_
    all_goals refine nx_region ?_
    all_goals (refine nx_op ?_; refine opw_yld (Yld.addI rfl rfl (by omega) (by omega)) rfl ?_)
    all_goals (refine nx_op ?_; refine opw_yld (Yld.move rfl) rfl ?_)
    all_goals refine nx_nil ?_
    refine nx_round (m' := D.length - 1 - (i + 1)) (L' := [[(bn, .cells (D.map Value.string ++ tl).toArray 9 (0, 0))], [(b6, .cells [.int .i64 0, .string ⟨#[]⟩, .int .i64 0].toArray 33 (0, 0))], [(b, .cells [.pointer (some ⟨T.t, 0, none⟩), .int .i64 d', .int .i64 (40 - (k3 : Int))].toArray 95 (0, 0))], F]) ⟨i + 1, d', k3, by omega, rfl, by omega, hst2, rfl, rfl⟩ (by omega) (by repeat' (first | exact .nil | refine .cons rfl ?_)) inferInstance
end
end Go.Proofs.YtdobndclhbkooaaDoor
