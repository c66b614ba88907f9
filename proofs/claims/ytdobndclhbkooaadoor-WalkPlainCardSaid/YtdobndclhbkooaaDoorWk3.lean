/- The walker: steps, links, whole paths. Conditions: the tree lies in the memory that is kept. -/
import Derived.Test.YtdobndclhbkooaaDoorWk2
namespace Go.Proofs.YtdobndclhbkooaaDoor
open Go Go.SL
set_option maxRecDepth 100000
set_option linter.unusedVariables false

abbrev Fo := Int × List UInt8 × Int
abbrev WR := Except Int (Fo × Nat)
abbrev Rec := Int → List UInt8 → Bool → Nat → WR
def foV (f : Fo) : Value := .agg #[.int .i64 f.1, .string (ofBs f.2.1), .int .i64 f.2.2]
def foZ : Value := .agg #[.int .i64 0, .string ⟨#[]⟩, .int .i64 0]
def followA (A : Fs) (R : Rec) (dir n : Int) : Nat → WR
  | 0 => .error 40
  | f + 1 => if (tgtA A n).2 = 0 then R dir (tgtA A n).1 true f else .error (tgtA A n).2
def stepA (A : Fs) (R : Rec) (dir : Int) (nm : List UInt8) (fuel : Nat) : Except Int (Int × Nat) :=
  if (findA A dir nm).2 = 0 then
    (if kindA A (findA A dir nm).1 = 3 then
      (match followA A R dir (findA A dir nm).1 fuel with
      | .error e => .error e
      | .ok (f, k) => if f.2.2 = 0 then .error 2 else if kindA A f.2.2 = 2 then .ok (f.2.2, k) else .error 20)
    else if kindA A (findA A dir nm).1 = 2 then .ok ((findA A dir nm).1, fuel) else .error 20)
  else .error (findA A dir nm).2
def WPost (b t fuel : Nat) (r : WR) (v : Value) (B : List Chunk) : Prop :=
  ∃ d' l', B = [wc b t d' l'] ∧ (match r with
    | .error e => e ≠ 0 ∧ v = .tuple #[foZ, .int .i64 e]
    | .ok (f, k) => v = .tuple #[foV f, .int .i64 0] ∧ l' = 40 - (k : Int) ∧ k ≤ fuel)
def RecOk (T : Tr) (N : Nat) (R : Rec) : Prop := ∀ F b dir path fol fuel, InT F T → fuel < N → N ≤ 41 →
  Sp Tryd.prog 41 [.pointer (some ⟨b, 0, none⟩), .string path, .bool fol] F [wc b T.t dir (40 - (fuel : Int))] (WPost b T.t fuel (R dir (bs path) fol fuel))

section
variable {F : Chunk} {T : Tr} {N : Nat} {R : Rec} {b : Nat}
/-- follow. -/
theorem sp131 (hR : RecOk T N R) (hT : InT F T) (dir n : Int) (fuel : Nat) (hf : fuel < N + 1) (hN : N + 1 ≤ 41) :
    Sp Tryd.prog 131 [.pointer (some ⟨b, 0, none⟩), .int .i64 n] F [wc b T.t dir (40 - (fuel : Int))] (WPost b T.t fuel (followA (abs T.S) R dir n fuel)) := by
  cases fuel with
  | zero =>
    refine sp_enter Tryd.func131 rfl Tryd.ntmps131 rfl (fun g => ?_)
    simp only [argFr, List.nil_append, List.cons_append, Nat.reduceAdd]
    simp only [wc]
    all_goals refine nx_seq ?_
    all_goals refine nx_region ?_
    all_goals (refine nx_op ?_; refine opw_alc Alc.alloc rfl (fun b4 => ?_))
    all_goals (refine nx_op ?_; refine opw_yld (Yld.assign rfl) rfl ?_)
    all_goals refine nx_nil ?_
    all_goals refine kp_code_normal ?_
    all_goals refine nx_seq ?_
    all_goals refine nx_region ?_
    all_goals (refine nx_op ?_; refine opw_yld (Yld.move rfl) rfl ?_)
    all_goals (refine nx_op ?_; refine opw_yld (Yld.nilCheck rfl) rfl ?_)
    all_goals (refine nx_op ?_; refine opw_yld (Yld.fieldAddr rfl) rfl ?_)
    all_goals (refine nx_op ?_; refine opw_yld (Yld.load rfl) rfl ?_)
    all_goals (refine nx_op ?_; refine opw_yld (Yld.addI rfl rfl (by omega) (by omega)) rfl ?_)
    all_goals (refine nx_op ?_; refine opw_yld (Yld.nilCheck rfl) rfl ?_)
    all_goals (refine nx_op ?_; refine opw_yld (Yld.fieldAddr rfl) rfl ?_)
    all_goals (refine nx_op ?_; refine opw_store rfl rfl rfl ?_)
    all_goals refine nx_nil ?_
    all_goals refine kp_code_normal ?_
    all_goals refine nx_seq ?_
    all_goals refine nx_seq ?_
    all_goals refine nx_region ?_
    all_goals (refine nx_op ?_; refine opw_yld (Yld.move rfl) rfl ?_)
    all_goals (refine nx_op ?_; refine opw_yld (Yld.nilCheck rfl) rfl ?_)
    all_goals (refine nx_op ?_; refine opw_yld (Yld.fieldAddr rfl) rfl ?_)
    all_goals (refine nx_op ?_; refine opw_yld (Yld.load rfl) rfl ?_)
    all_goals (refine nx_op ?_; refine opw_yld (Yld.cmp rfl rfl rfl) rfl ?_)
    all_goals refine nx_nil ?_
    all_goals refine kp_code_normal ?_
    all_goals (refine nx_cond rfl (fun hc => ?_) (fun hc => ?_))
    all_goals (first | (exact Bool.noConfusion (hc.symm.trans (by first | rfl | assumption) : true = false)) | (exact Bool.noConfusion (hc.symm.trans (by first | rfl | assumption) : false = true)) | (all_goals refine nx_seq ?_; all_goals refine nx_region ?_; all_goals (refine nx_op ?_; refine opw_yld (Yld.build (cs := [.int .i64 0, .string ⟨#[]⟩, .int .i64 0]) rfl rfl) rfl ?_); all_goals (refine nx_op ?_; refine opw_storeAgg rfl rfl rfl (by simp [Value.oneCell']) ?_); all_goals (refine nx_op ?_; refine opw_yld (Yld.assign rfl) rfl ?_); all_goals refine nx_nil ?_; all_goals refine kp_code_normal ?_; all_goals refine nx_ret ?_; all_goals refine kp_code_ret ?_; all_goals (exact resC2 (by first | exact .inl rfl | exact .inr rfl) Tryd.results131 rfl rfl [[(b, .cells [.pointer (some ⟨T.t, 0, none⟩), .int .i64 dir, .int .i64 (40 - ((0 : Nat) : Int) + 1)].toArray 95 (0, 0))]] inferInstance ⟨dir, _, rfl, by simp, rfl⟩)) | (all_goals refine nx_skip ?_))
    all_goals refine kp_code_normal ?_
    all_goals refine nx_seq ?_
    all_goals refine nx_region ?_
    all_goals (refine nx_op ?_; refine opw_yld (Yld.move rfl) rfl ?_)
    all_goals (refine nx_op ?_; refine opw_yld (Yld.nilCheck rfl) rfl ?_)
    all_goals (refine nx_op ?_; refine opw_yld (Yld.fieldAddr rfl) rfl ?_)
    all_goals (refine nx_op ?_; refine opw_yld (Yld.load rfl) rfl ?_)
    all_goals (refine nx_op ?_; refine opw_yld (Yld.move rfl) rfl ?_)
    all_goals (refine nx_op ?_; (fail))
    all_goals (refine nx_op ?_; refine opw_yld (Yld.move rfl) rfl ?_)
    all_goals (refine nx_op ?_; refine opw_yld (Yld.extract rfl rfl) rfl ?_)
    all_goals (refine nx_op ?_; refine opw_yld (Yld.extract rfl rfl) rfl ?_)
    all_goals (refine nx_op ?_; refine opw_yld (Yld.assign rfl) rfl ?_)
    all_goals (refine nx_op ?_; refine opw_yld (Yld.assign rfl) rfl ?_)
    all_goals refine nx_nil ?_
    all_goals refine kp_code_normal ?_
    all_goals refine nx_seq ?_
    all_goals refine nx_seq ?_
    all_goals refine nx_region ?_
    all_goals (refine nx_op ?_; refine opw_yld (Yld.move rfl) rfl ?_)
    all_goals (refine nx_op ?_; refine opw_yld (Yld.cmp rfl rfl rfl) rfl ?_)
    all_goals refine nx_nil ?_
    all_goals refine kp_code_normal ?_
    all_goals (refine nx_cond rfl (fun hc => ?_) (fun hc => ?_))
    all_goals (first | (exact Bool.noConfusion (hc.symm.trans (by first | rfl | assumption) : true = false)) | (exact Bool.noConfusion (hc.symm.trans (by first | rfl | assumption) : false = true)) | (all_goals refine nx_seq ?_; all_goals refine nx_region ?_; all_goals (refine nx_op ?_; refine opw_yld (Yld.build rfl rfl) rfl ?_); all_goals (refine nx_op ?_; refine opw_yld (Yld.move rfl) rfl ?_); all_goals (refine nx_op ?_; refine opw_storeAgg rfl rfl rfl (by simp [Value.oneCell']) ?_); all_goals (refine nx_op ?_; refine opw_yld (Yld.assign rfl) rfl ?_); all_goals refine nx_nil ?_; all_goals refine kp_code_normal ?_; all_goals refine nx_ret ?_; all_goals refine kp_code_ret ?_; all_goals (exact resC2 (by first | exact .inl rfl | exact .inr rfl) Tryd.results131 rfl rfl [[(b, .cells [.pointer (some ⟨T.t, 0, none⟩), .int .i64 dir, .int .i64 (40 - ((0 : Nat) : Int) + 1)].toArray 95 (0, 0))]] inferInstance ⟨dir, _, rfl, by simp, rfl⟩)) | (all_goals refine nx_skip ?_))
    all_goals refine kp_code_normal ?_
    all_goals refine nx_seq ?_
    all_goals refine nx_region ?_
    all_goals (refine nx_op ?_; refine opw_yld (Yld.move rfl) rfl ?_)
    all_goals (refine nx_op ?_; refine opw_yld (Yld.move rfl) rfl ?_)
    all_goals (refine nx_op ?_; (fail))
    all_goals (refine nx_op ?_; refine opw_yld (Yld.extract rfl rfl) rfl ?_)
    all_goals (refine nx_op ?_; refine opw_yld (Yld.extract rfl rfl) rfl ?_)
    all_goals (refine nx_op ?_; refine opw_storeAgg rfl rfl rfl (by simp [Value.oneCell']) ?_)
    all_goals (refine nx_op ?_; refine opw_yld (Yld.assign rfl) rfl ?_)
    all_goals refine nx_nil ?_
    all_goals refine kp_code_normal ?_
    all_goals refine nx_ret ?_
    all_goals (exact resC2 (by first | exact .inl rfl | exact .inr rfl) Tryd.results131 rfl rfl [[(b, .cells [.pointer (some ⟨T.t, 0, none⟩), .int .i64 dir, .int .i64 (40 - ((0 : Nat) : Int) + 1)].toArray 95 (0, 0))]] inferInstance ⟨dir, _, rfl, by simp, rfl⟩)
  | succ f =>
    have hc1 : decide ((40 : Int) < 40 - (f : Int)) = false := by simp; omega
    have hc2 : (40 - ((f + 1 : Nat) : Int) + 1) = 40 - (f : Int) := by omega
    generalize ht : tgtA (abs T.S) n = q
    obtain ⟨s, e⟩ := q
    by_cases he : e = 0
    · subst he
      have hr : followA (abs T.S) R dir n (f + 1) = R dir s true f := by simp [followA, ht]
      rw [hr]
      have h41 : ∀ F', InT F' T → Sp Tryd.prog 41 [.pointer (some ⟨b, 0, none⟩), .string (ofBs s), .bool true] F' [wc b T.t dir (40 - (f : Int))] (WPost b T.t f (R dir s true f)) := fun F' h => by
        have := hR F' b dir (ofBs s) true f h (by omega) (by omega)
        simpa using this
      generalize R dir s true f = r at h41
      refine sp_enter Tryd.func131 rfl Tryd.ntmps131 rfl (fun g => ?_)
      simp only [argFr, List.nil_append, List.cons_append, Nat.reduceAdd]
      simp only [wc]
      all_goals refine nx_seq ?_
      all_goals refine nx_region ?_
      all_goals (refine nx_op ?_; refine opw_alc Alc.alloc rfl (fun b4 => ?_))
      all_goals (refine nx_op ?_; refine opw_yld (Yld.assign rfl) rfl ?_)
      all_goals refine nx_nil ?_
      all_goals refine kp_code_normal ?_
      all_goals refine nx_seq ?_
      all_goals refine nx_region ?_
      all_goals (refine nx_op ?_; refine opw_yld (Yld.move rfl) rfl ?_)
      all_goals (refine nx_op ?_; refine opw_yld (Yld.nilCheck rfl) rfl ?_)
      all_goals (refine nx_op ?_; refine opw_yld (Yld.fieldAddr rfl) rfl ?_)
      all_goals (refine nx_op ?_; refine opw_yld (Yld.load rfl) rfl ?_)
      all_goals (refine nx_op ?_; refine opw_yld (Yld.addI rfl rfl (by omega) (by omega)) rfl ?_; rw [hc2])
      all_goals (refine nx_op ?_; refine opw_yld (Yld.nilCheck rfl) rfl ?_)
      all_goals (refine nx_op ?_; refine opw_yld (Yld.fieldAddr rfl) rfl ?_)
      all_goals (refine nx_op ?_; refine opw_store rfl rfl rfl ?_)
      all_goals refine nx_nil ?_
      all_goals refine kp_code_normal ?_
      all_goals refine nx_seq ?_
      all_goals refine nx_seq ?_
      all_goals refine nx_region ?_
      all_goals (refine nx_op ?_; refine opw_yld (Yld.move rfl) rfl ?_)
      all_goals (refine nx_op ?_; refine opw_yld (Yld.nilCheck rfl) rfl ?_)
      all_goals (refine nx_op ?_; refine opw_yld (Yld.fieldAddr rfl) rfl ?_)
      all_goals (refine nx_op ?_; refine opw_yld (Yld.load rfl) rfl ?_)
      all_goals (refine nx_op ?_; refine opw_yld (Yld.cmp rfl rfl rfl) rfl ?_)
      all_goals refine nx_nil ?_
      all_goals refine kp_code_normal ?_
      all_goals (refine nx_cond rfl (fun hc => ?_) (fun hc => ?_))
      all_goals (first | (exact Bool.noConfusion (hc.symm.trans (by first | rfl | assumption) : true = false)) | (exact Bool.noConfusion (hc.symm.trans (by first | rfl | assumption) : false = true)) | (all_goals refine nx_seq ?_; all_goals refine nx_region ?_; all_goals (refine nx_op ?_; refine opw_yld (Yld.build rfl rfl) rfl ?_); all_goals (refine nx_op ?_; refine opw_storeAgg rfl rfl rfl (by simp [Value.oneCell']) ?_); all_goals (refine nx_op ?_; refine opw_yld (Yld.assign rfl) rfl ?_); all_goals refine nx_nil ?_; all_goals refine kp_code_normal ?_; all_goals refine nx_ret ?_; all_goals refine kp_code_ret ?_; all_goals (first | exact resC2 (by first | exact .inl rfl | exact .inr rfl) Tryd.results131 rfl rfl [[(b, .cells [.pointer (some ⟨T.t, 0, none⟩), .int .i64 d', .int .i64 l'].toArray 95 (0, 0))]] inferInstance ⟨d', l', rfl, h1, rfl⟩ | exact resC2 (by first | exact .inl rfl | exact .inr rfl) Tryd.results131 rfl rfl [[(b, .cells [.pointer (some ⟨T.t, 0, none⟩), .int .i64 d', .int .i64 l'].toArray 95 (0, 0))]] inferInstance ⟨d', l', rfl, rfl, h1, by omega⟩)) | (all_goals refine nx_skip ?_))
      all_goals refine kp_code_normal ?_
      all_goals refine nx_seq ?_
      all_goals refine nx_region ?_
      all_goals (refine nx_op ?_; refine opw_yld (Yld.move rfl) rfl ?_)
      all_goals (refine nx_op ?_; refine opw_yld (Yld.nilCheck rfl) rfl ?_)
      all_goals (refine nx_op ?_; refine opw_yld (Yld.fieldAddr rfl) rfl ?_)
      all_goals (refine nx_op ?_; refine opw_yld (Yld.load rfl) rfl ?_)
      all_goals (refine nx_op ?_; refine opw_yld (Yld.move rfl) rfl ?_)
      all_goals (refine nx_op ?_; (refine opw_call rfl (sp63 (hT.mono (by simp +contextual)) n) inferInstance rfl ?_; rintro _ _ ⟨rfl, rfl⟩; simp only [List.nil_append, ht, strE]))
      all_goals (refine nx_op ?_; refine opw_yld (Yld.move rfl) rfl ?_)
      all_goals (refine nx_op ?_; refine opw_yld (Yld.extract rfl rfl) rfl ?_)
      all_goals (refine nx_op ?_; refine opw_yld (Yld.extract rfl rfl) rfl ?_)
      all_goals (refine nx_op ?_; refine opw_yld (Yld.assign rfl) rfl ?_)
      all_goals (refine nx_op ?_; refine opw_yld (Yld.assign rfl) rfl ?_)
      all_goals refine nx_nil ?_
      all_goals refine kp_code_normal ?_
      all_goals refine nx_seq ?_
      all_goals refine nx_seq ?_
      all_goals refine nx_region ?_
      all_goals (refine nx_op ?_; refine opw_yld (Yld.move rfl) rfl ?_)
      all_goals (refine nx_op ?_; refine opw_yld (Yld.cmp rfl rfl rfl) rfl ?_)
      all_goals refine nx_nil ?_
      all_goals refine kp_code_normal ?_
      all_goals (refine nx_cond rfl (fun hc => ?_) (fun hc => ?_))
      all_goals (first | (exact Bool.noConfusion (hc.symm.trans (by first | rfl | assumption) : true = false)) | (exact Bool.noConfusion (hc.symm.trans (by first | rfl | assumption) : false = true)) | (all_goals refine nx_seq ?_; all_goals refine nx_region ?_; all_goals (refine nx_op ?_; refine opw_yld (Yld.build rfl rfl) rfl ?_); all_goals (refine nx_op ?_; refine opw_yld (Yld.move rfl) rfl ?_); all_goals (refine nx_op ?_; refine opw_storeAgg rfl rfl rfl (by simp [Value.oneCell']) ?_); all_goals (refine nx_op ?_; refine opw_yld (Yld.assign rfl) rfl ?_); all_goals refine nx_nil ?_; all_goals refine kp_code_normal ?_; all_goals refine nx_ret ?_; all_goals refine kp_code_ret ?_; all_goals (first | exact resC2 (by first | exact .inl rfl | exact .inr rfl) Tryd.results131 rfl rfl [[(b, .cells [.pointer (some ⟨T.t, 0, none⟩), .int .i64 d', .int .i64 l'].toArray 95 (0, 0))]] inferInstance ⟨d', l', rfl, h1, rfl⟩ | exact resC2 (by first | exact .inl rfl | exact .inr rfl) Tryd.results131 rfl rfl [[(b, .cells [.pointer (some ⟨T.t, 0, none⟩), .int .i64 d', .int .i64 l'].toArray 95 (0, 0))]] inferInstance ⟨d', l', rfl, rfl, h1, by omega⟩)) | (all_goals refine nx_skip ?_))
      all_goals refine kp_code_normal ?_
      all_goals refine nx_seq ?_
      all_goals refine nx_region ?_
      all_goals (refine nx_op ?_; refine opw_yld (Yld.move rfl) rfl ?_)
      all_goals (refine nx_op ?_; refine opw_yld (Yld.move rfl) rfl ?_)
      all_goals (refine nx_op ?_; (refine opw_call rfl (h41 _ (hT.mono (by simp +contextual))) inferInstance rfl ?_; rintro v B ⟨d', l', rfl, h⟩; simp only [List.cons_append, List.nil_append, wc]; rcases r with e | ⟨⟨f1, f2, f3⟩, k⟩; all_goals (first | (obtain ⟨h1, rfl⟩ := h; simp only [foZ]) | (obtain ⟨rfl, h1, h2⟩ := h; simp only [foV]))))
      all_goals (refine nx_op ?_; refine opw_yld (Yld.extract rfl rfl) rfl ?_)
      all_goals (refine nx_op ?_; refine opw_yld (Yld.extract rfl rfl) rfl ?_)
      all_goals (refine nx_op ?_; refine opw_storeAgg rfl rfl rfl (by simp [Value.oneCell']) ?_)
      all_goals (refine nx_op ?_; refine opw_yld (Yld.assign rfl) rfl ?_)
      all_goals refine nx_nil ?_
      all_goals refine kp_code_normal ?_
      all_goals refine nx_ret ?_
      all_goals (first | exact resC2 (by first | exact .inl rfl | exact .inr rfl) Tryd.results131 rfl rfl [[(b, .cells [.pointer (some ⟨T.t, 0, none⟩), .int .i64 d', .int .i64 l'].toArray 95 (0, 0))]] inferInstance ⟨d', l', rfl, h1, rfl⟩ | exact resC2 (by first | exact .inl rfl | exact .inr rfl) Tryd.results131 rfl rfl [[(b, .cells [.pointer (some ⟨T.t, 0, none⟩), .int .i64 d', .int .i64 l'].toArray 95 (0, 0))]] inferInstance ⟨d', l', rfl, rfl, h1, by omega⟩)
    · have hr : followA (abs T.S) R dir n (f + 1) = .error e := by simp [followA, ht, he]
      rw [hr]
      have hb : (e != 0) = true := by simpa using he
      refine sp_enter Tryd.func131 rfl Tryd.ntmps131 rfl (fun g => ?_)
      simp only [argFr, List.nil_append, List.cons_append, Nat.reduceAdd]
      simp only [wc]
      all_goals refine nx_seq ?_
      all_goals refine nx_region ?_
      all_goals (refine nx_op ?_; refine opw_alc Alc.alloc rfl (fun b4 => ?_))
      all_goals (refine nx_op ?_; refine opw_yld (Yld.assign rfl) rfl ?_)
      all_goals refine nx_nil ?_
      all_goals refine kp_code_normal ?_
      all_goals refine nx_seq ?_
      all_goals refine nx_region ?_
      all_goals (refine nx_op ?_; refine opw_yld (Yld.move rfl) rfl ?_)
      all_goals (refine nx_op ?_; refine opw_yld (Yld.nilCheck rfl) rfl ?_)
      all_goals (refine nx_op ?_; refine opw_yld (Yld.fieldAddr rfl) rfl ?_)
      all_goals (refine nx_op ?_; refine opw_yld (Yld.load rfl) rfl ?_)
      all_goals (refine nx_op ?_; refine opw_yld (Yld.addI rfl rfl (by omega) (by omega)) rfl ?_; rw [hc2])
      all_goals (refine nx_op ?_; refine opw_yld (Yld.nilCheck rfl) rfl ?_)
      all_goals (refine nx_op ?_; refine opw_yld (Yld.fieldAddr rfl) rfl ?_)
      all_goals (refine nx_op ?_; refine opw_store rfl rfl rfl ?_)
      all_goals refine nx_nil ?_
      all_goals refine kp_code_normal ?_
      all_goals refine nx_seq ?_
      all_goals refine nx_seq ?_
      all_goals refine nx_region ?_
      all_goals (refine nx_op ?_; refine opw_yld (Yld.move rfl) rfl ?_)
      all_goals (refine nx_op ?_; refine opw_yld (Yld.nilCheck rfl) rfl ?_)
      all_goals (refine nx_op ?_; refine opw_yld (Yld.fieldAddr rfl) rfl ?_)
      all_goals (refine nx_op ?_; refine opw_yld (Yld.load rfl) rfl ?_)
      all_goals (refine nx_op ?_; refine opw_yld (Yld.cmp rfl rfl rfl) rfl ?_)
      all_goals refine nx_nil ?_
      all_goals refine kp_code_normal ?_
      all_goals (refine nx_cond rfl (fun hc => ?_) (fun hc => ?_))
      all_goals (first | (exact Bool.noConfusion (hc.symm.trans (by first | rfl | assumption) : true = false)) | (exact Bool.noConfusion (hc.symm.trans (by first | rfl | assumption) : false = true)) | (all_goals refine nx_seq ?_; all_goals refine nx_region ?_; all_goals (refine nx_op ?_; refine opw_yld (Yld.build rfl rfl) rfl ?_); all_goals (refine nx_op ?_; refine opw_storeAgg rfl rfl rfl (by simp [Value.oneCell']) ?_); all_goals (refine nx_op ?_; refine opw_yld (Yld.assign rfl) rfl ?_); all_goals refine nx_nil ?_; all_goals refine kp_code_normal ?_; all_goals refine nx_ret ?_; all_goals refine kp_code_ret ?_; all_goals (exact resC2 (by first | exact .inl rfl | exact .inr rfl) Tryd.results131 rfl rfl [[(b, .cells [.pointer (some ⟨T.t, 0, none⟩), .int .i64 dir, .int .i64 (40 - (f : Int))].toArray 95 (0, 0))]] inferInstance ⟨dir, _, rfl, he, rfl⟩)) | (all_goals refine nx_skip ?_))
      all_goals refine kp_code_normal ?_
      all_goals refine nx_seq ?_
      all_goals refine nx_region ?_
      all_goals (refine nx_op ?_; refine opw_yld (Yld.move rfl) rfl ?_)
      all_goals (refine nx_op ?_; refine opw_yld (Yld.nilCheck rfl) rfl ?_)
      all_goals (refine nx_op ?_; refine opw_yld (Yld.fieldAddr rfl) rfl ?_)
      all_goals (refine nx_op ?_; refine opw_yld (Yld.load rfl) rfl ?_)
      all_goals (refine nx_op ?_; refine opw_yld (Yld.move rfl) rfl ?_)
      all_goals (refine nx_op ?_; (refine opw_call rfl (sp63 (hT.mono (by simp +contextual)) n) inferInstance rfl ?_; rintro _ _ ⟨rfl, rfl⟩; simp only [List.nil_append, ht, strE]))
      all_goals (refine nx_op ?_; refine opw_yld (Yld.move rfl) rfl ?_)
      all_goals (refine nx_op ?_; refine opw_yld (Yld.extract rfl rfl) rfl ?_)
      all_goals (refine nx_op ?_; refine opw_yld (Yld.extract rfl rfl) rfl ?_)
      all_goals (refine nx_op ?_; refine opw_yld (Yld.assign rfl) rfl ?_)
      all_goals (refine nx_op ?_; refine opw_yld (Yld.assign rfl) rfl ?_)
      all_goals refine nx_nil ?_
      all_goals refine kp_code_normal ?_
      all_goals refine nx_seq ?_
      all_goals refine nx_seq ?_
      all_goals refine nx_region ?_
      all_goals (refine nx_op ?_; refine opw_yld (Yld.move rfl) rfl ?_)
      all_goals (refine nx_op ?_; refine opw_yld (Yld.cmp rfl rfl rfl) rfl ?_)
      all_goals refine nx_nil ?_
      all_goals refine kp_code_normal ?_
      all_goals (refine nx_cond rfl (fun hc => ?_) (fun hc => ?_))
      all_goals (first | (exact Bool.noConfusion (hc.symm.trans (by first | rfl | assumption) : true = false)) | (exact Bool.noConfusion (hc.symm.trans (by first | rfl | assumption) : false = true)) | (all_goals refine nx_seq ?_; all_goals refine nx_region ?_; all_goals (refine nx_op ?_; refine opw_yld (Yld.build (cs := [.int .i64 0, .string ⟨#[]⟩, .int .i64 0]) rfl rfl) rfl ?_); all_goals (refine nx_op ?_; refine opw_yld (Yld.move rfl) rfl ?_); all_goals (refine nx_op ?_; refine opw_storeAgg rfl rfl rfl (by simp [Value.oneCell']) ?_); all_goals (refine nx_op ?_; refine opw_yld (Yld.assign rfl) rfl ?_); all_goals refine nx_nil ?_; all_goals refine kp_code_normal ?_; all_goals refine nx_ret ?_; all_goals refine kp_code_ret ?_; all_goals (exact resC2 (by first | exact .inl rfl | exact .inr rfl) Tryd.results131 rfl rfl [[(b, .cells [.pointer (some ⟨T.t, 0, none⟩), .int .i64 dir, .int .i64 (40 - (f : Int))].toArray 95 (0, 0))]] inferInstance ⟨dir, _, rfl, he, rfl⟩)) | (all_goals refine nx_skip ?_))
      all_goals refine kp_code_normal ?_
      all_goals refine nx_seq ?_
      all_goals refine nx_region ?_
      all_goals (refine nx_op ?_; refine opw_yld (Yld.move rfl) rfl ?_)
      all_goals (refine nx_op ?_; refine opw_yld (Yld.move rfl) rfl ?_)
      all_goals (refine nx_op ?_; (fail))
      all_goals (refine nx_op ?_; refine opw_yld (Yld.extract rfl rfl) rfl ?_)
      all_goals (refine nx_op ?_; refine opw_yld (Yld.extract rfl rfl) rfl ?_)
      all_goals (refine nx_op ?_; refine opw_storeAgg rfl rfl rfl (by simp [Value.oneCell']) ?_)
      all_goals (refine nx_op ?_; refine opw_yld (Yld.assign rfl) rfl ?_)
      all_goals refine nx_nil ?_
      all_goals refine kp_code_normal ?_
      all_goals refine nx_ret ?_
      all_goals (exact resC2 (by first | exact .inl rfl | exact .inr rfl) Tryd.results131 rfl rfl [[(b, .cells [.pointer (some ⟨T.t, 0, none⟩), .int .i64 dir, .int .i64 (40 - (f : Int))].toArray 95 (0, 0))]] inferInstance ⟨dir, _, rfl, he, rfl⟩)

def SPost (b t fuel : Nat) (r : Except Int (Int × Nat)) (v : Value) (B : List Chunk) : Prop :=
  ∃ d' l', B = [wc b t d' l'] ∧ (match r with
    | .error e => e ≠ 0 ∧ v = .int .i64 e
    | .ok (d, k) => v = .int .i64 0 ∧ d' = d ∧ l' = 40 - (k : Int) ∧ k ≤ fuel)
/-- step. -/
theorem sp92 (hR : RecOk T N R) (hT : InT F T) (dir : Int) (nm : ByteArray) (fuel : Nat) (hf : fuel < N + 1) (hN : N + 1 ≤ 41) :
    Sp Tryd.prog 92 [.pointer (some ⟨b, 0, none⟩), .string nm] F [wc b T.t dir (40 - (fuel : Int))] (SPost b T.t fuel (stepA (abs T.S) R dir (bs nm) fuel)) := by
  generalize hfd : findA (abs T.S) dir (bs nm) = q
  obtain ⟨n, e⟩ := q
  refine sp_enter Tryd.func92 rfl Tryd.ntmps92 rfl (fun g => ?_)
  simp only [argFr, List.nil_append, List.cons_append, Nat.reduceAdd]
  simp only [wc]
  by_cases he : e = 0
  case neg =>
    have hr : stepA (abs T.S) R dir (bs nm) fuel = .error e := by simp [stepA, hfd, he]
    have hb : (e != 0) = true := by simpa using he
    rw [hr]
    all_goals refine nx_seq ?_
    all_goals refine nx_region ?_
    all_goals (refine nx_op ?_; refine opw_yld (Yld.assign rfl) rfl ?_)
    all_goals refine nx_nil ?_
    all_goals refine kp_code_normal ?_
    all_goals refine nx_seq ?_
    all_goals refine nx_draw (fun i => match i with | 3 => .read | 7 => .read | 9 => .hard | _ => .stab) [] [0, 1, 2, 3, 4, 5, 6, 7, 8, 9, 10, 11, 12, 13, 14] rfl (by kernel_rfl) inferInstance ?_
    all_goals (refine wk_stab rfl rfl (Yld.move rfl) rfl ?_)
    all_goals (refine wk_stab rfl rfl (Yld.nilCheck rfl) rfl ?_)
    all_goals (refine wk_stab rfl rfl (Yld.fieldAddr rfl) rfl ?_)
    all_goals (refine wk_read rfl rfl (Yld.load rfl) rfl ?_)
    all_goals (refine wk_stab rfl rfl (Yld.move rfl) rfl ?_)
    all_goals (refine wk_stab rfl rfl (Yld.nilCheck rfl) rfl ?_)
    all_goals (refine wk_stab rfl rfl (Yld.fieldAddr rfl) rfl ?_)
    all_goals (refine wk_read rfl rfl (Yld.load rfl) rfl ?_)
    all_goals (refine wk_stab rfl rfl (Yld.move rfl) rfl ?_)
    all_goals ((refine wk_hard rfl rfl ?_; (refine opw_call rfl (sp61 (hT.mono (by simp +contextual)) dir nm) inferInstance rfl ?_; rintro _ _ ⟨rfl, rfl⟩; simp only [List.nil_append, findR_abs, hfd, pairV]); refine nx_keeps inferInstance ?_))
    all_goals (refine wk_stab rfl rfl (Yld.move rfl) rfl ?_)
    all_goals (refine wk_stab rfl rfl (Yld.extract rfl rfl) rfl ?_)
    all_goals (refine wk_stab rfl rfl (Yld.extract rfl rfl) rfl ?_)
    all_goals (refine wk_stab rfl rfl (Yld.assign rfl) rfl ?_)
    all_goals (refine wk_stab rfl rfl (Yld.assign rfl) rfl ?_)
    all_goals refine wk_nil ?_
    all_goals refine kp_code_normal ?_
    all_goals refine nx_seq ?_
    all_goals refine nx_seq ?_
    all_goals refine nx_region ?_
    all_goals (refine nx_op ?_; refine opw_yld (Yld.move rfl) rfl ?_)
    all_goals (refine nx_op ?_; refine opw_yld (Yld.cmp rfl rfl rfl) rfl ?_)
    all_goals refine nx_nil ?_
    all_goals refine kp_code_normal ?_
    all_goals (refine nx_cond rfl (fun hc => ?_) (fun hc => ?_))
    all_goals (first | (exact Bool.noConfusion (hc.symm.trans (by first | rfl | assumption) : true = false)) | (exact Bool.noConfusion (hc.symm.trans (by first | rfl | assumption) : false = true)) | (all_goals refine nx_seq ?_; all_goals refine nx_region ?_; all_goals (refine nx_op ?_; refine opw_yld (Yld.move rfl) rfl ?_); all_goals (refine nx_op ?_; refine opw_yld (Yld.assign rfl) rfl ?_); all_goals refine nx_nil ?_; all_goals refine kp_code_normal ?_; all_goals refine nx_ret ?_; all_goals refine kp_code_ret ?_; all_goals (exact res1 (by first | exact .inl rfl | exact .inr rfl) Tryd.results92 rfl [wc b T.t dir (40 - (fuel : Int))] inferInstance ⟨dir, _, rfl, he, rfl⟩)) | (all_goals refine nx_skip ?_))
    all_goals refine kp_code_normal ?_
    all_goals refine nx_seq ?_
    all_goals refine nx_seq ?_
    all_goals refine nx_region ?_
    all_goals (refine nx_op ?_; refine opw_yld (Yld.move rfl) rfl ?_)
    all_goals (refine nx_op ?_; refine opw_yld (Yld.move rfl) rfl ?_)
    all_goals (refine nx_op ?_; (fail))
    all_goals (refine nx_op ?_; refine opw_yld (Yld.cmp rfl rfl rfl) rfl ?_)
    all_goals refine nx_nil ?_
    all_goals refine kp_code_normal ?_
    all_goals (refine nx_cond rfl (fun hc => ?_) (fun hc => ?_))
    all_goals (first | (exact Bool.noConfusion (hc.symm.trans (by first | rfl | assumption) : true = false)) | (exact Bool.noConfusion (hc.symm.trans (by first | rfl | assumption) : false = true)) | (all_goals refine nx_seq ?_; all_goals refine nx_region ?_; all_goals (refine nx_op ?_; refine opw_yld (Yld.move rfl) rfl ?_); all_goals (refine nx_op ?_; refine opw_yld (Yld.move rfl) rfl ?_); all_goals (refine nx_op ?_; (fail)); all_goals (refine nx_op ?_; refine opw_yld (Yld.move rfl) rfl ?_); all_goals (refine nx_op ?_; refine opw_yld (Yld.extract rfl rfl) rfl ?_); all_goals (refine nx_op ?_; refine opw_yld (Yld.extract rfl rfl) rfl ?_); all_goals (refine nx_op ?_; refine opw_alc Alc.alloc rfl (fun b7 => ?_)); all_goals (refine nx_op ?_; refine opw_storeAgg rfl rfl rfl (by simp [Value.oneCell']) ?_); all_goals (refine nx_op ?_; refine opw_yld (Yld.assign rfl) rfl ?_); all_goals refine nx_nil ?_; all_goals refine kp_code_normal ?_; all_goals refine nx_seq ?_; all_goals refine nx_seq ?_; all_goals refine nx_region ?_; all_goals (refine nx_op ?_; refine opw_yld (Yld.move rfl) rfl ?_); all_goals (refine nx_op ?_; refine opw_yld (Yld.cmp rfl rfl rfl) rfl ?_); all_goals refine nx_nil ?_; all_goals refine kp_code_normal ?_; all_goals (refine nx_cond rfl (fun hc => ?_) (fun hc => ?_)); all_goals (first | (exact Bool.noConfusion (hc.symm.trans (by first | rfl | assumption) : true = false)) | (exact Bool.noConfusion (hc.symm.trans (by first | rfl | assumption) : false = true)) | (all_goals refine nx_seq ?_; all_goals refine nx_region ?_; all_goals (refine nx_op ?_; refine opw_yld (Yld.move rfl) rfl ?_); all_goals (refine nx_op ?_; refine opw_yld (Yld.assign rfl) rfl ?_); all_goals refine nx_nil ?_; all_goals refine kp_code_normal ?_; all_goals refine nx_ret ?_; all_goals refine kp_code_ret ?_; all_goals refine kp_code_ret ?_; all_goals (exact res1 (by first | exact .inl rfl | exact .inr rfl) Tryd.results92 rfl [wc b T.t dir (40 - (fuel : Int))] inferInstance ⟨dir, _, rfl, he, rfl⟩)) | (all_goals refine nx_skip ?_)); all_goals refine kp_code_normal ?_; all_goals refine nx_seq ?_; all_goals refine nx_seq ?_; all_goals refine nx_region ?_; all_goals (refine nx_op ?_; refine opw_yld (Yld.fieldAddr rfl) rfl ?_); all_goals (refine nx_op ?_; refine opw_yld (Yld.load rfl) rfl ?_); all_goals (refine nx_op ?_; refine opw_yld (Yld.cmp rfl rfl rfl) rfl ?_); all_goals refine nx_nil ?_; all_goals refine kp_code_normal ?_; all_goals (refine nx_cond rfl (fun hc => ?_) (fun hc => ?_)); all_goals (first | (exact Bool.noConfusion (hc.symm.trans (by first | rfl | assumption) : true = false)) | (exact Bool.noConfusion (hc.symm.trans (by first | rfl | assumption) : false = true)) | (all_goals refine nx_seq ?_; all_goals refine nx_region ?_; all_goals (refine nx_op ?_; refine opw_yld (Yld.assign rfl) rfl ?_); all_goals refine nx_nil ?_; all_goals refine kp_code_normal ?_; all_goals refine nx_ret ?_; all_goals refine kp_code_ret ?_; all_goals refine kp_code_ret ?_; all_goals (exact res1 (by first | exact .inl rfl | exact .inr rfl) Tryd.results92 rfl [wc b T.t dir (40 - (fuel : Int))] inferInstance ⟨dir, _, rfl, he, rfl⟩)) | (all_goals refine nx_skip ?_)); all_goals refine kp_code_normal ?_; all_goals refine nx_region ?_; all_goals (refine nx_op ?_; refine opw_yld (Yld.fieldAddr rfl) rfl ?_); all_goals (refine nx_op ?_; refine opw_yld (Yld.load rfl) rfl ?_); all_goals (refine nx_op ?_; refine opw_yld (Yld.assign rfl) rfl ?_); all_goals refine nx_nil ?_) | (all_goals refine nx_skip ?_))
    all_goals refine kp_code_normal ?_
    all_goals refine nx_seq ?_
    all_goals refine nx_seq ?_
    all_goals refine nx_region ?_
    all_goals (refine nx_op ?_; refine opw_yld (Yld.move rfl) rfl ?_)
    all_goals (refine nx_op ?_; refine opw_yld (Yld.move rfl) rfl ?_)
    all_goals (refine nx_op ?_; (fail))
    all_goals (refine nx_op ?_; refine opw_yld (Yld.cmp rfl rfl rfl) rfl ?_)
    all_goals refine nx_nil ?_
    all_goals refine kp_code_normal ?_
    all_goals (refine nx_cond rfl (fun hc => ?_) (fun hc => ?_))
    all_goals (first | (exact Bool.noConfusion (hc.symm.trans (by first | rfl | assumption) : true = false)) | (exact Bool.noConfusion (hc.symm.trans (by first | rfl | assumption) : false = true)) | (all_goals refine nx_seq ?_; all_goals refine nx_region ?_; all_goals (refine nx_op ?_; refine opw_yld (Yld.assign rfl) rfl ?_); all_goals refine nx_nil ?_; all_goals refine kp_code_normal ?_; all_goals refine nx_ret ?_; all_goals refine kp_code_ret ?_; all_goals (exact res1 (by first | exact .inl rfl | exact .inr rfl) Tryd.results92 rfl [wc b T.t dir (40 - (fuel : Int))] inferInstance ⟨dir, _, rfl, he, rfl⟩)) | (all_goals refine nx_skip ?_))
    all_goals refine kp_code_normal ?_
    all_goals refine nx_seq ?_
    all_goals refine nx_region ?_
    all_goals (refine nx_op ?_; refine opw_yld (Yld.move rfl) rfl ?_)
    all_goals (refine nx_op ?_; refine opw_yld (Yld.move rfl) rfl ?_)
    all_goals (refine nx_op ?_; refine opw_yld (Yld.nilCheck rfl) rfl ?_)
    all_goals (refine nx_op ?_; refine opw_yld (Yld.fieldAddr rfl) rfl ?_)
    all_goals (refine nx_op ?_; refine opw_store rfl rfl rfl ?_)
    all_goals refine nx_nil ?_
    all_goals refine kp_code_normal ?_
    all_goals refine nx_seq ?_
    all_goals refine nx_region ?_
    all_goals (refine nx_op ?_; refine opw_yld (Yld.assign rfl) rfl ?_)
    all_goals refine nx_nil ?_
    all_goals refine kp_code_normal ?_
    all_goals refine nx_ret ?_
    all_goals (exact res1 (by first | exact .inl rfl | exact .inr rfl) Tryd.results92 rfl [wc b T.t dir (40 - (fuel : Int))] inferInstance ⟨dir, _, rfl, he, rfl⟩)
  subst he
  by_cases hk : kindA (abs T.S) n = 3
  case neg =>
    have hb : (kindA (abs T.S) n == 3) = false := by simpa using hk
    by_cases hk2 : kindA (abs T.S) n = 2
    · have hr : stepA (abs T.S) R dir (bs nm) fuel = .ok (n, fuel) := by simp [stepA, hfd, hk2]
      have hb2 : (kindA (abs T.S) n != 2) = false := by simpa using hk2
      rw [hr]
      all_goals refine nx_seq ?_
      all_goals refine nx_region ?_
      all_goals (refine nx_op ?_; refine opw_yld (Yld.assign rfl) rfl ?_)
      all_goals refine nx_nil ?_
      all_goals refine kp_code_normal ?_
      all_goals refine nx_seq ?_
      all_goals refine nx_draw (fun i => match i with | 3 => .read | 7 => .read | 9 => .hard | _ => .stab) [] [0, 1, 2, 3, 4, 5, 6, 7, 8, 9, 10, 11, 12, 13, 14] rfl (by kernel_rfl) inferInstance ?_
      all_goals (refine wk_stab rfl rfl (Yld.move rfl) rfl ?_)
      all_goals (refine wk_stab rfl rfl (Yld.nilCheck rfl) rfl ?_)
      all_goals (refine wk_stab rfl rfl (Yld.fieldAddr rfl) rfl ?_)
      all_goals (refine wk_read rfl rfl (Yld.load rfl) rfl ?_)
      all_goals (refine wk_stab rfl rfl (Yld.move rfl) rfl ?_)
      all_goals (refine wk_stab rfl rfl (Yld.nilCheck rfl) rfl ?_)
      all_goals (refine wk_stab rfl rfl (Yld.fieldAddr rfl) rfl ?_)
      all_goals (refine wk_read rfl rfl (Yld.load rfl) rfl ?_)
      all_goals (refine wk_stab rfl rfl (Yld.move rfl) rfl ?_)
      all_goals ((refine wk_hard rfl rfl ?_; (refine opw_call rfl (sp61 (hT.mono (by simp +contextual)) dir nm) inferInstance rfl ?_; rintro _ _ ⟨rfl, rfl⟩; simp only [List.nil_append, findR_abs, hfd, pairV]); refine nx_keeps inferInstance ?_))
      all_goals (refine wk_stab rfl rfl (Yld.move rfl) rfl ?_)
      all_goals (refine wk_stab rfl rfl (Yld.extract rfl rfl) rfl ?_)
      all_goals (refine wk_stab rfl rfl (Yld.extract rfl rfl) rfl ?_)
      all_goals (refine wk_stab rfl rfl (Yld.assign rfl) rfl ?_)
      all_goals (refine wk_stab rfl rfl (Yld.assign rfl) rfl ?_)
      all_goals refine wk_nil ?_
      all_goals refine kp_code_normal ?_
      all_goals refine nx_seq ?_
      all_goals refine nx_seq ?_
      all_goals refine nx_region ?_
      all_goals (refine nx_op ?_; refine opw_yld (Yld.move rfl) rfl ?_)
      all_goals (refine nx_op ?_; refine opw_yld (Yld.cmp rfl rfl rfl) rfl ?_)
      all_goals refine nx_nil ?_
      all_goals refine kp_code_normal ?_
      all_goals (refine nx_cond rfl (fun hc => ?_) (fun hc => ?_))
      all_goals (first | (exact Bool.noConfusion (hc.symm.trans (by first | rfl | assumption) : true = false)) | (exact Bool.noConfusion (hc.symm.trans (by first | rfl | assumption) : false = true)) | (all_goals refine nx_seq ?_; all_goals refine nx_region ?_; all_goals (refine nx_op ?_; refine opw_yld (Yld.move rfl) rfl ?_); all_goals (refine nx_op ?_; refine opw_yld (Yld.assign rfl) rfl ?_); all_goals refine nx_nil ?_; all_goals refine kp_code_normal ?_; all_goals refine nx_ret ?_; all_goals refine kp_code_ret ?_; all_goals (exact res1 (by first | exact .inl rfl | exact .inr rfl) Tryd.results92 rfl [wc b T.t n (40 - (fuel : Int))] inferInstance ⟨n, _, rfl, rfl, rfl, rfl, Nat.le_refl _⟩)) | (all_goals refine nx_skip ?_))
      all_goals refine kp_code_normal ?_
      all_goals refine nx_seq ?_
      all_goals refine nx_seq ?_
      all_goals refine nx_region ?_
      all_goals (refine nx_op ?_; refine opw_yld (Yld.move rfl) rfl ?_)
      all_goals (refine nx_op ?_; refine opw_yld (Yld.move rfl) rfl ?_)
      all_goals (refine nx_op ?_; (refine opw_call rfl (sp130 (hT.mono (by simp +contextual)) _ (b := b) (hb := by intro y hy; simp only [wc, List.mem_singleton] at hy; subst hy; simp; first | exact ⟨rfl, rfl⟩ | exact Or.inl ⟨rfl, rfl⟩ | exact Or.inr (Or.inl ⟨rfl, rfl⟩))) inferInstance rfl ?_; rintro _ _ ⟨rfl, rfl⟩; simp only [List.nil_append]))
      all_goals (refine nx_op ?_; refine opw_yld (Yld.cmp rfl rfl rfl) rfl ?_)
      all_goals refine nx_nil ?_
      all_goals refine kp_code_normal ?_
      all_goals (refine nx_cond rfl (fun hc => ?_) (fun hc => ?_))
      all_goals (first | (exact Bool.noConfusion (hc.symm.trans (by first | rfl | assumption) : true = false)) | (exact Bool.noConfusion (hc.symm.trans (by first | rfl | assumption) : false = true)) | (all_goals refine nx_seq ?_; all_goals refine nx_region ?_; all_goals (refine nx_op ?_; refine opw_yld (Yld.move rfl) rfl ?_); all_goals (refine nx_op ?_; refine opw_yld (Yld.move rfl) rfl ?_); all_goals (refine nx_op ?_; (fail)); all_goals (refine nx_op ?_; refine opw_yld (Yld.move rfl) rfl ?_); all_goals (refine nx_op ?_; refine opw_yld (Yld.extract rfl rfl) rfl ?_); all_goals (refine nx_op ?_; refine opw_yld (Yld.extract rfl rfl) rfl ?_); all_goals (refine nx_op ?_; refine opw_alc Alc.alloc rfl (fun b7 => ?_)); all_goals (refine nx_op ?_; refine opw_storeAgg rfl rfl rfl (by simp [Value.oneCell']) ?_); all_goals (refine nx_op ?_; refine opw_yld (Yld.assign rfl) rfl ?_); all_goals refine nx_nil ?_; all_goals refine kp_code_normal ?_; all_goals refine nx_seq ?_; all_goals refine nx_seq ?_; all_goals refine nx_region ?_; all_goals (refine nx_op ?_; refine opw_yld (Yld.move rfl) rfl ?_); all_goals (refine nx_op ?_; refine opw_yld (Yld.cmp rfl rfl rfl) rfl ?_); all_goals refine nx_nil ?_; all_goals refine kp_code_normal ?_; all_goals (refine nx_cond rfl (fun hc => ?_) (fun hc => ?_)); all_goals (first | (exact Bool.noConfusion (hc.symm.trans (by first | rfl | assumption) : true = false)) | (exact Bool.noConfusion (hc.symm.trans (by first | rfl | assumption) : false = true)) | (all_goals refine nx_seq ?_; all_goals refine nx_region ?_; all_goals (refine nx_op ?_; refine opw_yld (Yld.move rfl) rfl ?_); all_goals (refine nx_op ?_; refine opw_yld (Yld.assign rfl) rfl ?_); all_goals refine nx_nil ?_; all_goals refine kp_code_normal ?_; all_goals refine nx_ret ?_; all_goals refine kp_code_ret ?_; all_goals refine kp_code_ret ?_; all_goals (exact res1 (by first | exact .inl rfl | exact .inr rfl) Tryd.results92 rfl [wc b T.t n (40 - (fuel : Int))] inferInstance ⟨n, _, rfl, rfl, rfl, rfl, Nat.le_refl _⟩)) | (all_goals refine nx_skip ?_)); all_goals refine kp_code_normal ?_; all_goals refine nx_seq ?_; all_goals refine nx_seq ?_; all_goals refine nx_region ?_; all_goals (refine nx_op ?_; refine opw_yld (Yld.fieldAddr rfl) rfl ?_); all_goals (refine nx_op ?_; refine opw_yld (Yld.load rfl) rfl ?_); all_goals (refine nx_op ?_; refine opw_yld (Yld.cmp rfl rfl rfl) rfl ?_); all_goals refine nx_nil ?_; all_goals refine kp_code_normal ?_; all_goals (refine nx_cond rfl (fun hc => ?_) (fun hc => ?_)); all_goals (first | (exact Bool.noConfusion (hc.symm.trans (by first | rfl | assumption) : true = false)) | (exact Bool.noConfusion (hc.symm.trans (by first | rfl | assumption) : false = true)) | (all_goals refine nx_seq ?_; all_goals refine nx_region ?_; all_goals (refine nx_op ?_; refine opw_yld (Yld.assign rfl) rfl ?_); all_goals refine nx_nil ?_; all_goals refine kp_code_normal ?_; all_goals refine nx_ret ?_; all_goals refine kp_code_ret ?_; all_goals refine kp_code_ret ?_; all_goals (exact res1 (by first | exact .inl rfl | exact .inr rfl) Tryd.results92 rfl [wc b T.t n (40 - (fuel : Int))] inferInstance ⟨n, _, rfl, rfl, rfl, rfl, Nat.le_refl _⟩)) | (all_goals refine nx_skip ?_)); all_goals refine kp_code_normal ?_; all_goals refine nx_region ?_; all_goals (refine nx_op ?_; refine opw_yld (Yld.fieldAddr rfl) rfl ?_); all_goals (refine nx_op ?_; refine opw_yld (Yld.load rfl) rfl ?_); all_goals (refine nx_op ?_; refine opw_yld (Yld.assign rfl) rfl ?_); all_goals refine nx_nil ?_) | (all_goals refine nx_skip ?_))
      all_goals refine kp_code_normal ?_
      all_goals refine nx_seq ?_
      all_goals refine nx_seq ?_
      all_goals refine nx_region ?_
      all_goals (refine nx_op ?_; refine opw_yld (Yld.move rfl) rfl ?_)
      all_goals (refine nx_op ?_; refine opw_yld (Yld.move rfl) rfl ?_)
      all_goals (refine nx_op ?_; (refine opw_call rfl (sp130 (hT.mono (by simp +contextual)) _ (b := b) (hb := by intro y hy; simp only [wc, List.mem_singleton] at hy; subst hy; simp; first | exact ⟨rfl, rfl⟩ | exact Or.inl ⟨rfl, rfl⟩ | exact Or.inr (Or.inl ⟨rfl, rfl⟩))) inferInstance rfl ?_; rintro _ _ ⟨rfl, rfl⟩; simp only [List.nil_append]))
      all_goals (refine nx_op ?_; refine opw_yld (Yld.cmp rfl rfl rfl) rfl ?_)
      all_goals refine nx_nil ?_
      all_goals refine kp_code_normal ?_
      all_goals (refine nx_cond rfl (fun hc => ?_) (fun hc => ?_))
      all_goals (first | (exact Bool.noConfusion (hc.symm.trans (by first | rfl | assumption) : true = false)) | (exact Bool.noConfusion (hc.symm.trans (by first | rfl | assumption) : false = true)) | (all_goals refine nx_seq ?_; all_goals refine nx_region ?_; all_goals (refine nx_op ?_; refine opw_yld (Yld.assign rfl) rfl ?_); all_goals refine nx_nil ?_; all_goals refine kp_code_normal ?_; all_goals refine nx_ret ?_; all_goals refine kp_code_ret ?_; all_goals (exact res1 (by first | exact .inl rfl | exact .inr rfl) Tryd.results92 rfl [wc b T.t n (40 - (fuel : Int))] inferInstance ⟨n, _, rfl, rfl, rfl, rfl, Nat.le_refl _⟩)) | (all_goals refine nx_skip ?_))
      all_goals refine kp_code_normal ?_
      all_goals refine nx_seq ?_
      all_goals refine nx_region ?_
      all_goals (refine nx_op ?_; refine opw_yld (Yld.move rfl) rfl ?_)
      all_goals (refine nx_op ?_; refine opw_yld (Yld.move rfl) rfl ?_)
      all_goals (refine nx_op ?_; refine opw_yld (Yld.nilCheck rfl) rfl ?_)
      all_goals (refine nx_op ?_; refine opw_yld (Yld.fieldAddr rfl) rfl ?_)
      all_goals (refine nx_op ?_; refine opw_store rfl rfl rfl ?_)
      all_goals refine nx_nil ?_
      all_goals refine kp_code_normal ?_
      all_goals refine nx_seq ?_
      all_goals refine nx_region ?_
      all_goals (refine nx_op ?_; refine opw_yld (Yld.assign rfl) rfl ?_)
      all_goals refine nx_nil ?_
      all_goals refine kp_code_normal ?_
      all_goals refine nx_ret ?_
      all_goals (exact res1 (by first | exact .inl rfl | exact .inr rfl) Tryd.results92 rfl [wc b T.t n (40 - (fuel : Int))] inferInstance ⟨n, _, rfl, rfl, rfl, rfl, Nat.le_refl _⟩)
    · have hr : stepA (abs T.S) R dir (bs nm) fuel = .error 20 := by simp [stepA, hfd, hk, hk2]
      have hb2 : (kindA (abs T.S) n != 2) = true := by simpa using hk2
      rw [hr]
      all_goals refine nx_seq ?_
      all_goals refine nx_region ?_
      all_goals (refine nx_op ?_; refine opw_yld (Yld.assign rfl) rfl ?_)
      all_goals refine nx_nil ?_
      all_goals refine kp_code_normal ?_
      all_goals refine nx_seq ?_
      all_goals refine nx_draw (fun i => match i with | 3 => .read | 7 => .read | 9 => .hard | _ => .stab) [] [0, 1, 2, 3, 4, 5, 6, 7, 8, 9, 10, 11, 12, 13, 14] rfl (by kernel_rfl) inferInstance ?_
      all_goals (refine wk_stab rfl rfl (Yld.move rfl) rfl ?_)
      all_goals (refine wk_stab rfl rfl (Yld.nilCheck rfl) rfl ?_)
      all_goals (refine wk_stab rfl rfl (Yld.fieldAddr rfl) rfl ?_)
      all_goals (refine wk_read rfl rfl (Yld.load rfl) rfl ?_)
      all_goals (refine wk_stab rfl rfl (Yld.move rfl) rfl ?_)
      all_goals (refine wk_stab rfl rfl (Yld.nilCheck rfl) rfl ?_)
      all_goals (refine wk_stab rfl rfl (Yld.fieldAddr rfl) rfl ?_)
      all_goals (refine wk_read rfl rfl (Yld.load rfl) rfl ?_)
      all_goals (refine wk_stab rfl rfl (Yld.move rfl) rfl ?_)
      all_goals ((refine wk_hard rfl rfl ?_; (refine opw_call rfl (sp61 (hT.mono (by simp +contextual)) dir nm) inferInstance rfl ?_; rintro _ _ ⟨rfl, rfl⟩; simp only [List.nil_append, findR_abs, hfd, pairV]); refine nx_keeps inferInstance ?_))
      all_goals (refine wk_stab rfl rfl (Yld.move rfl) rfl ?_)
      all_goals (refine wk_stab rfl rfl (Yld.extract rfl rfl) rfl ?_)
      all_goals (refine wk_stab rfl rfl (Yld.extract rfl rfl) rfl ?_)
      all_goals (refine wk_stab rfl rfl (Yld.assign rfl) rfl ?_)
      all_goals (refine wk_stab rfl rfl (Yld.assign rfl) rfl ?_)
      all_goals refine wk_nil ?_
      all_goals refine kp_code_normal ?_
      all_goals refine nx_seq ?_
      all_goals refine nx_seq ?_
      all_goals refine nx_region ?_
      all_goals (refine nx_op ?_; refine opw_yld (Yld.move rfl) rfl ?_)
      all_goals (refine nx_op ?_; refine opw_yld (Yld.cmp rfl rfl rfl) rfl ?_)
      all_goals refine nx_nil ?_
      all_goals refine kp_code_normal ?_
      all_goals (refine nx_cond rfl (fun hc => ?_) (fun hc => ?_))
      all_goals (first | (exact Bool.noConfusion (hc.symm.trans (by first | rfl | assumption) : true = false)) | (exact Bool.noConfusion (hc.symm.trans (by first | rfl | assumption) : false = true)) | (all_goals refine nx_seq ?_; all_goals refine nx_region ?_; all_goals (refine nx_op ?_; refine opw_yld (Yld.move rfl) rfl ?_); all_goals (refine nx_op ?_; refine opw_yld (Yld.assign rfl) rfl ?_); all_goals refine nx_nil ?_; all_goals refine kp_code_normal ?_; all_goals refine nx_ret ?_; all_goals refine kp_code_ret ?_; all_goals (exact res1 (by first | exact .inl rfl | exact .inr rfl) Tryd.results92 rfl [wc b T.t dir (40 - (fuel : Int))] inferInstance ⟨dir, _, rfl, by decide, rfl⟩)) | (all_goals refine nx_skip ?_))
      all_goals refine kp_code_normal ?_
      all_goals refine nx_seq ?_
      all_goals refine nx_seq ?_
      all_goals refine nx_region ?_
      all_goals (refine nx_op ?_; refine opw_yld (Yld.move rfl) rfl ?_)
      all_goals (refine nx_op ?_; refine opw_yld (Yld.move rfl) rfl ?_)
      all_goals (refine nx_op ?_; (refine opw_call rfl (sp130 (hT.mono (by simp +contextual)) _ (b := b) (hb := by intro y hy; simp only [wc, List.mem_singleton] at hy; subst hy; simp; first | exact ⟨rfl, rfl⟩ | exact Or.inl ⟨rfl, rfl⟩ | exact Or.inr (Or.inl ⟨rfl, rfl⟩))) inferInstance rfl ?_; rintro _ _ ⟨rfl, rfl⟩; simp only [List.nil_append]))
      all_goals (refine nx_op ?_; refine opw_yld (Yld.cmp rfl rfl rfl) rfl ?_)
      all_goals refine nx_nil ?_
      all_goals refine kp_code_normal ?_
      all_goals (refine nx_cond rfl (fun hc => ?_) (fun hc => ?_))
      all_goals (first | (exact Bool.noConfusion (hc.symm.trans (by first | rfl | assumption) : true = false)) | (exact Bool.noConfusion (hc.symm.trans (by first | rfl | assumption) : false = true)) | (all_goals refine nx_seq ?_; all_goals refine nx_region ?_; all_goals (refine nx_op ?_; refine opw_yld (Yld.move rfl) rfl ?_); all_goals (refine nx_op ?_; refine opw_yld (Yld.move rfl) rfl ?_); all_goals (refine nx_op ?_; (fail)); all_goals (refine nx_op ?_; refine opw_yld (Yld.move rfl) rfl ?_); all_goals (refine nx_op ?_; refine opw_yld (Yld.extract rfl rfl) rfl ?_); all_goals (refine nx_op ?_; refine opw_yld (Yld.extract rfl rfl) rfl ?_); all_goals (refine nx_op ?_; refine opw_alc Alc.alloc rfl (fun b7 => ?_)); all_goals (refine nx_op ?_; refine opw_storeAgg rfl rfl rfl (by simp [Value.oneCell']) ?_); all_goals (refine nx_op ?_; refine opw_yld (Yld.assign rfl) rfl ?_); all_goals refine nx_nil ?_; all_goals refine kp_code_normal ?_; all_goals refine nx_seq ?_; all_goals refine nx_seq ?_; all_goals refine nx_region ?_; all_goals (refine nx_op ?_; refine opw_yld (Yld.move rfl) rfl ?_); all_goals (refine nx_op ?_; refine opw_yld (Yld.cmp rfl rfl rfl) rfl ?_); all_goals refine nx_nil ?_; all_goals refine kp_code_normal ?_; all_goals (refine nx_cond rfl (fun hc => ?_) (fun hc => ?_)); all_goals (first | (exact Bool.noConfusion (hc.symm.trans (by first | rfl | assumption) : true = false)) | (exact Bool.noConfusion (hc.symm.trans (by first | rfl | assumption) : false = true)) | (all_goals refine nx_seq ?_; all_goals refine nx_region ?_; all_goals (refine nx_op ?_; refine opw_yld (Yld.move rfl) rfl ?_); all_goals (refine nx_op ?_; refine opw_yld (Yld.assign rfl) rfl ?_); all_goals refine nx_nil ?_; all_goals refine kp_code_normal ?_; all_goals refine nx_ret ?_; all_goals refine kp_code_ret ?_; all_goals refine kp_code_ret ?_; all_goals (exact res1 (by first | exact .inl rfl | exact .inr rfl) Tryd.results92 rfl [wc b T.t dir (40 - (fuel : Int))] inferInstance ⟨dir, _, rfl, by decide, rfl⟩)) | (all_goals refine nx_skip ?_)); all_goals refine kp_code_normal ?_; all_goals refine nx_seq ?_; all_goals refine nx_seq ?_; all_goals refine nx_region ?_; all_goals (refine nx_op ?_; refine opw_yld (Yld.fieldAddr rfl) rfl ?_); all_goals (refine nx_op ?_; refine opw_yld (Yld.load rfl) rfl ?_); all_goals (refine nx_op ?_; refine opw_yld (Yld.cmp rfl rfl rfl) rfl ?_); all_goals refine nx_nil ?_; all_goals refine kp_code_normal ?_; all_goals (refine nx_cond rfl (fun hc => ?_) (fun hc => ?_)); all_goals (first | (exact Bool.noConfusion (hc.symm.trans (by first | rfl | assumption) : true = false)) | (exact Bool.noConfusion (hc.symm.trans (by first | rfl | assumption) : false = true)) | (all_goals refine nx_seq ?_; all_goals refine nx_region ?_; all_goals (refine nx_op ?_; refine opw_yld (Yld.assign rfl) rfl ?_); all_goals refine nx_nil ?_; all_goals refine kp_code_normal ?_; all_goals refine nx_ret ?_; all_goals refine kp_code_ret ?_; all_goals refine kp_code_ret ?_; all_goals (exact res1 (by first | exact .inl rfl | exact .inr rfl) Tryd.results92 rfl [wc b T.t dir (40 - (fuel : Int))] inferInstance ⟨dir, _, rfl, by decide, rfl⟩)) | (all_goals refine nx_skip ?_)); all_goals refine kp_code_normal ?_; all_goals refine nx_region ?_; all_goals (refine nx_op ?_; refine opw_yld (Yld.fieldAddr rfl) rfl ?_); all_goals (refine nx_op ?_; refine opw_yld (Yld.load rfl) rfl ?_); all_goals (refine nx_op ?_; refine opw_yld (Yld.assign rfl) rfl ?_); all_goals refine nx_nil ?_) | (all_goals refine nx_skip ?_))
      all_goals refine kp_code_normal ?_
      all_goals refine nx_seq ?_
      all_goals refine nx_seq ?_
      all_goals refine nx_region ?_
      all_goals (refine nx_op ?_; refine opw_yld (Yld.move rfl) rfl ?_)
      all_goals (refine nx_op ?_; refine opw_yld (Yld.move rfl) rfl ?_)
      all_goals (refine nx_op ?_; (refine opw_call rfl (sp130 (hT.mono (by simp +contextual)) _ (b := b) (hb := by intro y hy; simp only [wc, List.mem_singleton] at hy; subst hy; simp; first | exact ⟨rfl, rfl⟩ | exact Or.inl ⟨rfl, rfl⟩ | exact Or.inr (Or.inl ⟨rfl, rfl⟩))) inferInstance rfl ?_; rintro _ _ ⟨rfl, rfl⟩; simp only [List.nil_append]))
      all_goals (refine nx_op ?_; refine opw_yld (Yld.cmp rfl rfl rfl) rfl ?_)
      all_goals refine nx_nil ?_
      all_goals refine kp_code_normal ?_
      all_goals (refine nx_cond rfl (fun hc => ?_) (fun hc => ?_))
      all_goals (first | (exact Bool.noConfusion (hc.symm.trans (by first | rfl | assumption) : true = false)) | (exact Bool.noConfusion (hc.symm.trans (by first | rfl | assumption) : false = true)) | (all_goals refine nx_seq ?_; all_goals refine nx_region ?_; all_goals (refine nx_op ?_; refine opw_yld (Yld.assign rfl) rfl ?_); all_goals refine nx_nil ?_; all_goals refine kp_code_normal ?_; all_goals refine nx_ret ?_; all_goals refine kp_code_ret ?_; all_goals (exact res1 (by first | exact .inl rfl | exact .inr rfl) Tryd.results92 rfl [wc b T.t dir (40 - (fuel : Int))] inferInstance ⟨dir, _, rfl, by decide, rfl⟩)) | (all_goals refine nx_skip ?_))
      all_goals refine kp_code_normal ?_
      all_goals refine nx_seq ?_
      all_goals refine nx_region ?_
      all_goals (refine nx_op ?_; refine opw_yld (Yld.move rfl) rfl ?_)
      all_goals (refine nx_op ?_; refine opw_yld (Yld.move rfl) rfl ?_)
      all_goals (refine nx_op ?_; refine opw_yld (Yld.nilCheck rfl) rfl ?_)
      all_goals (refine nx_op ?_; refine opw_yld (Yld.fieldAddr rfl) rfl ?_)
      all_goals (refine nx_op ?_; refine opw_store rfl rfl rfl ?_)
      all_goals refine nx_nil ?_
      all_goals refine kp_code_normal ?_
      all_goals refine nx_seq ?_
      all_goals refine nx_region ?_
      all_goals (refine nx_op ?_; refine opw_yld (Yld.assign rfl) rfl ?_)
      all_goals refine nx_nil ?_
      all_goals refine kp_code_normal ?_
      all_goals refine nx_ret ?_
      all_goals (exact res1 (by first | exact .inl rfl | exact .inr rfl) Tryd.results92 rfl [wc b T.t dir (40 - (fuel : Int))] inferInstance ⟨dir, _, rfl, by decide, rfl⟩)
  have hb : (kindA (abs T.S) n == 3) = true := by simpa using hk
  have h131 : ∀ F', InT F' T → Sp Tryd.prog 131 [.pointer (some ⟨b, 0, none⟩), .int .i64 n] F' [wc b T.t dir (40 - (fuel : Int))] (WPost b T.t fuel (followA (abs T.S) R dir n fuel)) := fun F' h => sp131 hR h dir n fuel hf hN
  generalize hfo : followA (abs T.S) R dir n fuel = r at h131
  rcases r with e' | ⟨⟨f1, f2, f3⟩, k⟩
  · have hr : stepA (abs T.S) R dir (bs nm) fuel = .error e' := by simp [stepA, hfd, hk, hfo]
    rw [hr]
    by_cases he' : e' = 0
    · subst he'
      all_goals refine nx_seq ?_
      all_goals refine nx_region ?_
      all_goals (refine nx_op ?_; refine opw_yld (Yld.assign rfl) rfl ?_)
      all_goals refine nx_nil ?_
      all_goals refine kp_code_normal ?_
      all_goals refine nx_seq ?_
      all_goals refine nx_draw (fun i => match i with | 3 => .read | 7 => .read | 9 => .hard | _ => .stab) [] [0, 1, 2, 3, 4, 5, 6, 7, 8, 9, 10, 11, 12, 13, 14] rfl (by kernel_rfl) inferInstance ?_
      all_goals (refine wk_stab rfl rfl (Yld.move rfl) rfl ?_)
      all_goals (refine wk_stab rfl rfl (Yld.nilCheck rfl) rfl ?_)
      all_goals (refine wk_stab rfl rfl (Yld.fieldAddr rfl) rfl ?_)
      all_goals (refine wk_read rfl rfl (Yld.load rfl) rfl ?_)
      all_goals (refine wk_stab rfl rfl (Yld.move rfl) rfl ?_)
      all_goals (refine wk_stab rfl rfl (Yld.nilCheck rfl) rfl ?_)
      all_goals (refine wk_stab rfl rfl (Yld.fieldAddr rfl) rfl ?_)
      all_goals (refine wk_read rfl rfl (Yld.load rfl) rfl ?_)
      all_goals (refine wk_stab rfl rfl (Yld.move rfl) rfl ?_)
      all_goals ((refine wk_hard rfl rfl ?_; (refine opw_call rfl (sp61 (hT.mono (by simp +contextual)) dir nm) inferInstance rfl ?_; rintro _ _ ⟨rfl, rfl⟩; simp only [List.nil_append, findR_abs, hfd, pairV]); refine nx_keeps inferInstance ?_))
      all_goals (refine wk_stab rfl rfl (Yld.move rfl) rfl ?_)
      all_goals (refine wk_stab rfl rfl (Yld.extract rfl rfl) rfl ?_)
      all_goals (refine wk_stab rfl rfl (Yld.extract rfl rfl) rfl ?_)
      all_goals (refine wk_stab rfl rfl (Yld.assign rfl) rfl ?_)
      all_goals (refine wk_stab rfl rfl (Yld.assign rfl) rfl ?_)
      all_goals refine wk_nil ?_
      all_goals refine kp_code_normal ?_
      all_goals refine nx_seq ?_
      all_goals refine nx_seq ?_
      all_goals refine nx_region ?_
      all_goals (refine nx_op ?_; refine opw_yld (Yld.move rfl) rfl ?_)
      all_goals (refine nx_op ?_; refine opw_yld (Yld.cmp rfl rfl rfl) rfl ?_)
      all_goals refine nx_nil ?_
      all_goals refine kp_code_normal ?_
      all_goals (refine nx_cond rfl (fun hc => ?_) (fun hc => ?_))
      all_goals (first | (exact Bool.noConfusion (hc.symm.trans (by first | rfl | assumption) : true = false)) | (exact Bool.noConfusion (hc.symm.trans (by first | rfl | assumption) : false = true)) | (all_goals refine nx_seq ?_; all_goals refine nx_region ?_; all_goals (refine nx_op ?_; refine opw_yld (Yld.move rfl) rfl ?_); all_goals (refine nx_op ?_; refine opw_yld (Yld.assign rfl) rfl ?_); all_goals refine nx_nil ?_; all_goals refine kp_code_normal ?_; all_goals refine nx_ret ?_; all_goals refine kp_code_ret ?_) | (all_goals refine nx_skip ?_))
      all_goals refine kp_code_normal ?_
      all_goals refine nx_seq ?_
      all_goals refine nx_seq ?_
      all_goals refine nx_region ?_
      all_goals (refine nx_op ?_; refine opw_yld (Yld.move rfl) rfl ?_)
      all_goals (refine nx_op ?_; refine opw_yld (Yld.move rfl) rfl ?_)
      all_goals (refine nx_op ?_; (refine opw_call rfl (sp130 (hT.mono (by simp +contextual)) _ (b := b) (hb := by intro y hy; simp only [wc, List.mem_singleton] at hy; subst hy; simp; first | exact ⟨rfl, rfl⟩ | exact Or.inl ⟨rfl, rfl⟩ | exact Or.inr (Or.inl ⟨rfl, rfl⟩))) inferInstance rfl ?_; rintro _ _ ⟨rfl, rfl⟩; simp only [List.nil_append]))
      all_goals (refine nx_op ?_; refine opw_yld (Yld.cmp rfl rfl rfl) rfl ?_)
      all_goals refine nx_nil ?_
      all_goals refine kp_code_normal ?_
      all_goals (refine nx_cond rfl (fun hc => ?_) (fun hc => ?_))
      all_goals (first | (exact Bool.noConfusion (hc.symm.trans (by first | rfl | assumption) : true = false)) | (exact Bool.noConfusion (hc.symm.trans (by first | rfl | assumption) : false = true)) | (all_goals refine nx_seq ?_; all_goals refine nx_region ?_; all_goals (refine nx_op ?_; refine opw_yld (Yld.move rfl) rfl ?_); all_goals (refine nx_op ?_; refine opw_yld (Yld.move rfl) rfl ?_); all_goals (refine nx_op ?_; (refine opw_call rfl (h131 _ (hT.mono (by simp +contextual))) inferInstance rfl ?_; rintro v B ⟨d', l', rfl, h⟩; exact absurd rfl h.1)); all_goals (refine nx_op ?_; refine opw_yld (Yld.move rfl) rfl ?_); all_goals (refine nx_op ?_; refine opw_yld (Yld.extract rfl rfl) rfl ?_); all_goals (refine nx_op ?_; refine opw_yld (Yld.extract rfl rfl) rfl ?_); all_goals (refine nx_op ?_; refine opw_alc Alc.alloc rfl (fun b7 => ?_)); all_goals (refine nx_op ?_; refine opw_storeAgg rfl rfl rfl (by simp [Value.oneCell']) ?_); all_goals (refine nx_op ?_; refine opw_yld (Yld.assign rfl) rfl ?_); all_goals refine nx_nil ?_; all_goals refine kp_code_normal ?_; all_goals refine nx_seq ?_; all_goals refine nx_seq ?_; all_goals refine nx_region ?_; all_goals (refine nx_op ?_; refine opw_yld (Yld.move rfl) rfl ?_); all_goals (refine nx_op ?_; refine opw_yld (Yld.cmp rfl rfl rfl) rfl ?_); all_goals refine nx_nil ?_; all_goals refine kp_code_normal ?_; all_goals (refine nx_cond rfl (fun hc => ?_) (fun hc => ?_)); all_goals (first | (exact Bool.noConfusion (hc.symm.trans (by first | rfl | assumption) : true = false)) | (exact Bool.noConfusion (hc.symm.trans (by first | rfl | assumption) : false = true)) | (all_goals refine nx_seq ?_; all_goals refine nx_region ?_; all_goals (refine nx_op ?_; refine opw_yld (Yld.move rfl) rfl ?_); all_goals (refine nx_op ?_; refine opw_yld (Yld.assign rfl) rfl ?_); all_goals refine nx_nil ?_; all_goals refine kp_code_normal ?_; all_goals refine nx_ret ?_; all_goals refine kp_code_ret ?_; all_goals refine kp_code_ret ?_) | (all_goals refine nx_skip ?_)); all_goals refine kp_code_normal ?_; all_goals refine nx_seq ?_; all_goals refine nx_seq ?_; all_goals refine nx_region ?_; all_goals (refine nx_op ?_; refine opw_yld (Yld.fieldAddr rfl) rfl ?_); all_goals (refine nx_op ?_; refine opw_yld (Yld.load rfl) rfl ?_); all_goals (refine nx_op ?_; refine opw_yld (Yld.cmp rfl rfl rfl) rfl ?_); all_goals refine nx_nil ?_; all_goals refine kp_code_normal ?_; all_goals (refine nx_cond rfl (fun hc => ?_) (fun hc => ?_)); all_goals (first | (exact Bool.noConfusion (hc.symm.trans (by first | rfl | assumption) : true = false)) | (exact Bool.noConfusion (hc.symm.trans (by first | rfl | assumption) : false = true)) | (all_goals refine nx_seq ?_; all_goals refine nx_region ?_; all_goals (refine nx_op ?_; refine opw_yld (Yld.assign rfl) rfl ?_); all_goals refine nx_nil ?_; all_goals refine kp_code_normal ?_; all_goals refine nx_ret ?_; all_goals refine kp_code_ret ?_; all_goals refine kp_code_ret ?_) | (all_goals refine nx_skip ?_)); all_goals refine kp_code_normal ?_; all_goals refine nx_region ?_; all_goals (refine nx_op ?_; refine opw_yld (Yld.fieldAddr rfl) rfl ?_); all_goals (refine nx_op ?_; refine opw_yld (Yld.load rfl) rfl ?_); all_goals (refine nx_op ?_; refine opw_yld (Yld.assign rfl) rfl ?_); all_goals refine nx_nil ?_) | (all_goals refine nx_skip ?_))
      all_goals refine kp_code_normal ?_
      all_goals refine nx_seq ?_
      all_goals refine nx_seq ?_
      all_goals refine nx_region ?_
      all_goals (refine nx_op ?_; refine opw_yld (Yld.move rfl) rfl ?_)
      all_goals (refine nx_op ?_; refine opw_yld (Yld.move rfl) rfl ?_)
      all_goals (refine nx_op ?_; (refine opw_call rfl (sp130 (hT.mono (by simp +contextual)) _ (b := b) (hb := by intro y hy; simp only [wc, List.mem_singleton] at hy; subst hy; simp; first | exact ⟨rfl, rfl⟩ | exact Or.inl ⟨rfl, rfl⟩ | exact Or.inr (Or.inl ⟨rfl, rfl⟩))) inferInstance rfl ?_; rintro _ _ ⟨rfl, rfl⟩; simp only [List.nil_append]))
      all_goals (refine nx_op ?_; refine opw_yld (Yld.cmp rfl rfl rfl) rfl ?_)
      all_goals refine nx_nil ?_
      all_goals refine kp_code_normal ?_
      all_goals (refine nx_cond rfl (fun hc => ?_) (fun hc => ?_))
      all_goals (first | (exact Bool.noConfusion (hc.symm.trans (by first | rfl | assumption) : true = false)) | (exact Bool.noConfusion (hc.symm.trans (by first | rfl | assumption) : false = true)) | (all_goals refine nx_seq ?_; all_goals refine nx_region ?_; all_goals (refine nx_op ?_; refine opw_yld (Yld.assign rfl) rfl ?_); all_goals refine nx_nil ?_; all_goals refine kp_code_normal ?_; all_goals refine nx_ret ?_; all_goals refine kp_code_ret ?_) | (all_goals refine nx_skip ?_))
      all_goals refine kp_code_normal ?_
      all_goals refine nx_seq ?_
      all_goals refine nx_region ?_
      all_goals (refine nx_op ?_; refine opw_yld (Yld.move rfl) rfl ?_)
      all_goals (refine nx_op ?_; refine opw_yld (Yld.move rfl) rfl ?_)
      all_goals (refine nx_op ?_; refine opw_yld (Yld.nilCheck rfl) rfl ?_)
      all_goals (refine nx_op ?_; refine opw_yld (Yld.fieldAddr rfl) rfl ?_)
      all_goals (refine nx_op ?_; refine opw_store rfl rfl rfl ?_)
      all_goals refine nx_nil ?_
      all_goals refine kp_code_normal ?_
      all_goals refine nx_seq ?_
      all_goals refine nx_region ?_
      all_goals (refine nx_op ?_; refine opw_yld (Yld.assign rfl) rfl ?_)
      all_goals refine nx_nil ?_
      all_goals refine kp_code_normal ?_
      all_goals refine nx_ret ?_
    have hb3 : (e' != 0) = true := by simpa using he'
    all_goals refine nx_seq ?_
    all_goals refine nx_region ?_
    all_goals (refine nx_op ?_; refine opw_yld (Yld.assign rfl) rfl ?_)
    all_goals refine nx_nil ?_
    all_goals refine kp_code_normal ?_
    all_goals refine nx_seq ?_
    all_goals refine nx_draw (fun i => match i with | 3 => .read | 7 => .read | 9 => .hard | _ => .stab) [] [0, 1, 2, 3, 4, 5, 6, 7, 8, 9, 10, 11, 12, 13, 14] rfl (by kernel_rfl) inferInstance ?_
    all_goals (refine wk_stab rfl rfl (Yld.move rfl) rfl ?_)
    all_goals (refine wk_stab rfl rfl (Yld.nilCheck rfl) rfl ?_)
    all_goals (refine wk_stab rfl rfl (Yld.fieldAddr rfl) rfl ?_)
    all_goals (refine wk_read rfl rfl (Yld.load rfl) rfl ?_)
    all_goals (refine wk_stab rfl rfl (Yld.move rfl) rfl ?_)
    all_goals (refine wk_stab rfl rfl (Yld.nilCheck rfl) rfl ?_)
    all_goals (refine wk_stab rfl rfl (Yld.fieldAddr rfl) rfl ?_)
    all_goals (refine wk_read rfl rfl (Yld.load rfl) rfl ?_)
    all_goals (refine wk_stab rfl rfl (Yld.move rfl) rfl ?_)
    all_goals ((refine wk_hard rfl rfl ?_; (refine opw_call rfl (sp61 (hT.mono (by simp +contextual)) dir nm) inferInstance rfl ?_; rintro _ _ ⟨rfl, rfl⟩; simp only [List.nil_append, findR_abs, hfd, pairV]); refine nx_keeps inferInstance ?_))
    all_goals (refine wk_stab rfl rfl (Yld.move rfl) rfl ?_)
    all_goals (refine wk_stab rfl rfl (Yld.extract rfl rfl) rfl ?_)
    all_goals (refine wk_stab rfl rfl (Yld.extract rfl rfl) rfl ?_)
    all_goals (refine wk_stab rfl rfl (Yld.assign rfl) rfl ?_)
    all_goals (refine wk_stab rfl rfl (Yld.assign rfl) rfl ?_)
    all_goals refine wk_nil ?_
    all_goals refine kp_code_normal ?_
    all_goals refine nx_seq ?_
    all_goals refine nx_seq ?_
    all_goals refine nx_region ?_
    all_goals (refine nx_op ?_; refine opw_yld (Yld.move rfl) rfl ?_)
    all_goals (refine nx_op ?_; refine opw_yld (Yld.cmp rfl rfl rfl) rfl ?_)
    all_goals refine nx_nil ?_
    all_goals refine kp_code_normal ?_
    all_goals (refine nx_cond rfl (fun hc => ?_) (fun hc => ?_))
    all_goals (first | (exact Bool.noConfusion (hc.symm.trans (by first | rfl | assumption) : true = false)) | (exact Bool.noConfusion (hc.symm.trans (by first | rfl | assumption) : false = true)) | (all_goals refine nx_seq ?_; all_goals refine nx_region ?_; all_goals (refine nx_op ?_; refine opw_yld (Yld.move rfl) rfl ?_); all_goals (refine nx_op ?_; refine opw_yld (Yld.assign rfl) rfl ?_); all_goals refine nx_nil ?_; all_goals refine kp_code_normal ?_; all_goals refine nx_ret ?_; all_goals refine kp_code_ret ?_; all_goals (exact res1 (by first | exact .inl rfl | exact .inr rfl) Tryd.results92 rfl [wc b T.t d' l'] inferInstance ⟨d', l', rfl, he', rfl⟩)) | (all_goals refine nx_skip ?_))
    all_goals refine kp_code_normal ?_
    all_goals refine nx_seq ?_
    all_goals refine nx_seq ?_
    all_goals refine nx_region ?_
    all_goals (refine nx_op ?_; refine opw_yld (Yld.move rfl) rfl ?_)
    all_goals (refine nx_op ?_; refine opw_yld (Yld.move rfl) rfl ?_)
    all_goals (refine nx_op ?_; (refine opw_call rfl (sp130 (hT.mono (by simp +contextual)) _ (b := b) (hb := by intro y hy; simp only [wc, List.mem_singleton] at hy; subst hy; simp; first | exact ⟨rfl, rfl⟩ | exact Or.inl ⟨rfl, rfl⟩ | exact Or.inr (Or.inl ⟨rfl, rfl⟩))) inferInstance rfl ?_; rintro _ _ ⟨rfl, rfl⟩; simp only [List.nil_append]))
    all_goals (refine nx_op ?_; refine opw_yld (Yld.cmp rfl rfl rfl) rfl ?_)
    all_goals refine nx_nil ?_
    all_goals refine kp_code_normal ?_
    all_goals (refine nx_cond rfl (fun hc => ?_) (fun hc => ?_))
    all_goals (first | (exact Bool.noConfusion (hc.symm.trans (by first | rfl | assumption) : true = false)) | (exact Bool.noConfusion (hc.symm.trans (by first | rfl | assumption) : false = true)) | (all_goals refine nx_seq ?_; all_goals refine nx_region ?_; all_goals (refine nx_op ?_; refine opw_yld (Yld.move rfl) rfl ?_); all_goals (refine nx_op ?_; refine opw_yld (Yld.move rfl) rfl ?_); all_goals (refine nx_op ?_; (refine opw_call rfl (h131 _ (hT.mono (by simp +contextual))) inferInstance rfl ?_; rintro v B ⟨d', l', rfl, h1, rfl⟩; simp only [List.cons_append, List.nil_append, wc, foZ])); all_goals (refine nx_op ?_; refine opw_yld (Yld.move rfl) rfl ?_); all_goals (refine nx_op ?_; refine opw_yld (Yld.extract rfl rfl) rfl ?_); all_goals (refine nx_op ?_; refine opw_yld (Yld.extract rfl rfl) rfl ?_); all_goals (refine nx_op ?_; refine opw_alc Alc.alloc rfl (fun b7 => ?_)); all_goals (refine nx_op ?_; refine opw_storeAgg rfl rfl rfl (by simp [Value.oneCell']) ?_); all_goals (refine nx_op ?_; refine opw_yld (Yld.assign rfl) rfl ?_); all_goals refine nx_nil ?_; all_goals refine kp_code_normal ?_; all_goals refine nx_seq ?_; all_goals refine nx_seq ?_; all_goals refine nx_region ?_; all_goals (refine nx_op ?_; refine opw_yld (Yld.move rfl) rfl ?_); all_goals (refine nx_op ?_; refine opw_yld (Yld.cmp rfl rfl rfl) rfl ?_); all_goals refine nx_nil ?_; all_goals refine kp_code_normal ?_; all_goals (refine nx_cond rfl (fun hc => ?_) (fun hc => ?_)); all_goals (first | (exact Bool.noConfusion (hc.symm.trans (by first | rfl | assumption) : true = false)) | (exact Bool.noConfusion (hc.symm.trans (by first | rfl | assumption) : false = true)) | (all_goals refine nx_seq ?_; all_goals refine nx_region ?_; all_goals (refine nx_op ?_; refine opw_yld (Yld.move rfl) rfl ?_); all_goals (refine nx_op ?_; refine opw_yld (Yld.assign rfl) rfl ?_); all_goals refine nx_nil ?_; all_goals refine kp_code_normal ?_; all_goals refine nx_ret ?_; all_goals refine kp_code_ret ?_; all_goals refine kp_code_ret ?_; all_goals (exact res1 (by first | exact .inl rfl | exact .inr rfl) Tryd.results92 rfl [wc b T.t d' l'] inferInstance ⟨d', l', rfl, he', rfl⟩)) | (all_goals refine nx_skip ?_)); all_goals refine kp_code_normal ?_; all_goals refine nx_seq ?_; all_goals refine nx_seq ?_; all_goals refine nx_region ?_; all_goals (refine nx_op ?_; refine opw_yld (Yld.fieldAddr rfl) rfl ?_); all_goals (refine nx_op ?_; refine opw_yld (Yld.load rfl) rfl ?_); all_goals (refine nx_op ?_; refine opw_yld (Yld.cmp rfl rfl rfl) rfl ?_); all_goals refine nx_nil ?_; all_goals refine kp_code_normal ?_; all_goals (refine nx_cond rfl (fun hc => ?_) (fun hc => ?_)); all_goals (first | (exact Bool.noConfusion (hc.symm.trans (by first | rfl | assumption) : true = false)) | (exact Bool.noConfusion (hc.symm.trans (by first | rfl | assumption) : false = true)) | (all_goals refine nx_seq ?_; all_goals refine nx_region ?_; all_goals (refine nx_op ?_; refine opw_yld (Yld.assign rfl) rfl ?_); all_goals refine nx_nil ?_; all_goals refine kp_code_normal ?_; all_goals refine nx_ret ?_; all_goals refine kp_code_ret ?_; all_goals refine kp_code_ret ?_; all_goals (exact res1 (by first | exact .inl rfl | exact .inr rfl) Tryd.results92 rfl [wc b T.t d' l'] inferInstance ⟨d', l', rfl, he', rfl⟩)) | (all_goals refine nx_skip ?_)); all_goals refine kp_code_normal ?_; all_goals refine nx_region ?_; all_goals (refine nx_op ?_; refine opw_yld (Yld.fieldAddr rfl) rfl ?_); all_goals (refine nx_op ?_; refine opw_yld (Yld.load rfl) rfl ?_); all_goals (refine nx_op ?_; refine opw_yld (Yld.assign rfl) rfl ?_); all_goals refine nx_nil ?_) | (all_goals refine nx_skip ?_))
    all_goals refine kp_code_normal ?_
    all_goals refine nx_seq ?_
    all_goals refine nx_seq ?_
    all_goals refine nx_region ?_
    all_goals (refine nx_op ?_; refine opw_yld (Yld.move rfl) rfl ?_)
    all_goals (refine nx_op ?_; refine opw_yld (Yld.move rfl) rfl ?_)
    all_goals (refine nx_op ?_; (refine opw_call rfl (sp130 (hT.mono (by simp +contextual)) _ (b := b) (hb := by intro y hy; simp only [wc, List.mem_singleton] at hy; subst hy; simp; first | exact ⟨rfl, rfl⟩ | exact Or.inl ⟨rfl, rfl⟩ | exact Or.inr (Or.inl ⟨rfl, rfl⟩))) inferInstance rfl ?_; rintro _ _ ⟨rfl, rfl⟩; simp only [List.nil_append]))
    all_goals (refine nx_op ?_; refine opw_yld (Yld.cmp rfl rfl rfl) rfl ?_)
    all_goals refine nx_nil ?_
    all_goals refine kp_code_normal ?_
    all_goals (refine nx_cond rfl (fun hc => ?_) (fun hc => ?_))
    all_goals (first | (exact Bool.noConfusion (hc.symm.trans (by first | rfl | assumption) : true = false)) | (exact Bool.noConfusion (hc.symm.trans (by first | rfl | assumption) : false = true)) | (all_goals refine nx_seq ?_; all_goals refine nx_region ?_; all_goals (refine nx_op ?_; refine opw_yld (Yld.assign rfl) rfl ?_); all_goals refine nx_nil ?_; all_goals refine kp_code_normal ?_; all_goals refine nx_ret ?_; all_goals refine kp_code_ret ?_; all_goals (exact res1 (by first | exact .inl rfl | exact .inr rfl) Tryd.results92 rfl [wc b T.t d' l'] inferInstance ⟨d', l', rfl, he', rfl⟩)) | (all_goals refine nx_skip ?_))
    all_goals refine kp_code_normal ?_
    all_goals refine nx_seq ?_
    all_goals refine nx_region ?_
    all_goals (refine nx_op ?_; refine opw_yld (Yld.move rfl) rfl ?_)
    all_goals (refine nx_op ?_; refine opw_yld (Yld.move rfl) rfl ?_)
    all_goals (refine nx_op ?_; refine opw_yld (Yld.nilCheck rfl) rfl ?_)
    all_goals (refine nx_op ?_; refine opw_yld (Yld.fieldAddr rfl) rfl ?_)
    all_goals (refine nx_op ?_; refine opw_store rfl rfl rfl ?_)
    all_goals refine nx_nil ?_
    all_goals refine kp_code_normal ?_
    all_goals refine nx_seq ?_
    all_goals refine nx_region ?_
    all_goals (refine nx_op ?_; refine opw_yld (Yld.assign rfl) rfl ?_)
    all_goals refine nx_nil ?_
    all_goals refine kp_code_normal ?_
    all_goals refine nx_ret ?_
    all_goals (exact res1 (by first | exact .inl rfl | exact .inr rfl) Tryd.results92 rfl [wc b T.t d' l'] inferInstance ⟨d', l', rfl, he', rfl⟩)
  by_cases h3 : f3 = 0
  · subst h3
    have hr : stepA (abs T.S) R dir (bs nm) fuel = .error 2 := by simp [stepA, hfd, hk, hfo]
    rw [hr]
    all_goals refine nx_seq ?_
    all_goals refine nx_region ?_
    all_goals (refine nx_op ?_; refine opw_yld (Yld.assign rfl) rfl ?_)
    all_goals refine nx_nil ?_
    all_goals refine kp_code_normal ?_
    all_goals refine nx_seq ?_
    all_goals refine nx_draw (fun i => match i with | 3 => .read | 7 => .read | 9 => .hard | _ => .stab) [] [0, 1, 2, 3, 4, 5, 6, 7, 8, 9, 10, 11, 12, 13, 14] rfl (by kernel_rfl) inferInstance ?_
    all_goals (refine wk_stab rfl rfl (Yld.move rfl) rfl ?_)
    all_goals (refine wk_stab rfl rfl (Yld.nilCheck rfl) rfl ?_)
    all_goals (refine wk_stab rfl rfl (Yld.fieldAddr rfl) rfl ?_)
    all_goals (refine wk_read rfl rfl (Yld.load rfl) rfl ?_)
    all_goals (refine wk_stab rfl rfl (Yld.move rfl) rfl ?_)
    all_goals (refine wk_stab rfl rfl (Yld.nilCheck rfl) rfl ?_)
    all_goals (refine wk_stab rfl rfl (Yld.fieldAddr rfl) rfl ?_)
    all_goals (refine wk_read rfl rfl (Yld.load rfl) rfl ?_)
    all_goals (refine wk_stab rfl rfl (Yld.move rfl) rfl ?_)
    all_goals ((refine wk_hard rfl rfl ?_; (refine opw_call rfl (sp61 (hT.mono (by simp +contextual)) dir nm) inferInstance rfl ?_; rintro _ _ ⟨rfl, rfl⟩; simp only [List.nil_append, findR_abs, hfd, pairV]); refine nx_keeps inferInstance ?_))
    all_goals (refine wk_stab rfl rfl (Yld.move rfl) rfl ?_)
    all_goals (refine wk_stab rfl rfl (Yld.extract rfl rfl) rfl ?_)
    all_goals (refine wk_stab rfl rfl (Yld.extract rfl rfl) rfl ?_)
    all_goals (refine wk_stab rfl rfl (Yld.assign rfl) rfl ?_)
    all_goals (refine wk_stab rfl rfl (Yld.assign rfl) rfl ?_)
    all_goals refine wk_nil ?_
    all_goals refine kp_code_normal ?_
    all_goals refine nx_seq ?_
    all_goals refine nx_seq ?_
    all_goals refine nx_region ?_
    all_goals (refine nx_op ?_; refine opw_yld (Yld.move rfl) rfl ?_)
    all_goals (refine nx_op ?_; refine opw_yld (Yld.cmp rfl rfl rfl) rfl ?_)
    all_goals refine nx_nil ?_
    all_goals refine kp_code_normal ?_
    all_goals (refine nx_cond rfl (fun hc => ?_) (fun hc => ?_))
    all_goals (first | (exact Bool.noConfusion (hc.symm.trans (by first | rfl | assumption) : true = false)) | (exact Bool.noConfusion (hc.symm.trans (by first | rfl | assumption) : false = true)) | (all_goals refine nx_seq ?_; all_goals refine nx_region ?_; all_goals (refine nx_op ?_; refine opw_yld (Yld.move rfl) rfl ?_); all_goals (refine nx_op ?_; refine opw_yld (Yld.assign rfl) rfl ?_); all_goals refine nx_nil ?_; all_goals refine kp_code_normal ?_; all_goals refine nx_ret ?_; all_goals refine kp_code_ret ?_; all_goals (exact res1 (by first | exact .inl rfl | exact .inr rfl) Tryd.results92 rfl [wc b T.t d' l'] inferInstance ⟨d', l', rfl, by decide, rfl⟩)) | (all_goals refine nx_skip ?_))
    all_goals refine kp_code_normal ?_
    all_goals refine nx_seq ?_
    all_goals refine nx_seq ?_
    all_goals refine nx_region ?_
    all_goals (refine nx_op ?_; refine opw_yld (Yld.move rfl) rfl ?_)
    all_goals (refine nx_op ?_; refine opw_yld (Yld.move rfl) rfl ?_)
    all_goals (refine nx_op ?_; (refine opw_call rfl (sp130 (hT.mono (by simp +contextual)) _ (b := b) (hb := by intro y hy; simp only [wc, List.mem_singleton] at hy; subst hy; simp; first | exact ⟨rfl, rfl⟩ | exact Or.inl ⟨rfl, rfl⟩ | exact Or.inr (Or.inl ⟨rfl, rfl⟩))) inferInstance rfl ?_; rintro _ _ ⟨rfl, rfl⟩; simp only [List.nil_append]))
    all_goals (refine nx_op ?_; refine opw_yld (Yld.cmp rfl rfl rfl) rfl ?_)
    all_goals refine nx_nil ?_
    all_goals refine kp_code_normal ?_
    all_goals (refine nx_cond rfl (fun hc => ?_) (fun hc => ?_))
    all_goals (first | (exact Bool.noConfusion (hc.symm.trans (by first | rfl | assumption) : true = false)) | (exact Bool.noConfusion (hc.symm.trans (by first | rfl | assumption) : false = true)) | (all_goals refine nx_seq ?_; all_goals refine nx_region ?_; all_goals (refine nx_op ?_; refine opw_yld (Yld.move rfl) rfl ?_); all_goals (refine nx_op ?_; refine opw_yld (Yld.move rfl) rfl ?_); all_goals (refine nx_op ?_; (refine opw_call rfl (h131 _ (hT.mono (by simp +contextual))) inferInstance rfl ?_; rintro v B ⟨d', l', rfl, rfl, h1, h2⟩; simp only [List.cons_append, List.nil_append, wc, foV])); all_goals (refine nx_op ?_; refine opw_yld (Yld.move rfl) rfl ?_); all_goals (refine nx_op ?_; refine opw_yld (Yld.extract rfl rfl) rfl ?_); all_goals (refine nx_op ?_; refine opw_yld (Yld.extract rfl rfl) rfl ?_); all_goals (refine nx_op ?_; refine opw_alc Alc.alloc rfl (fun b7 => ?_)); all_goals (refine nx_op ?_; refine opw_storeAgg rfl rfl rfl (by simp [Value.oneCell']) ?_); all_goals (refine nx_op ?_; refine opw_yld (Yld.assign rfl) rfl ?_); all_goals refine nx_nil ?_; all_goals refine kp_code_normal ?_; all_goals refine nx_seq ?_; all_goals refine nx_seq ?_; all_goals refine nx_region ?_; all_goals (refine nx_op ?_; refine opw_yld (Yld.move rfl) rfl ?_); all_goals (refine nx_op ?_; refine opw_yld (Yld.cmp rfl rfl rfl) rfl ?_); all_goals refine nx_nil ?_; all_goals refine kp_code_normal ?_; all_goals (refine nx_cond rfl (fun hc => ?_) (fun hc => ?_)); all_goals (first | (exact Bool.noConfusion (hc.symm.trans (by first | rfl | assumption) : true = false)) | (exact Bool.noConfusion (hc.symm.trans (by first | rfl | assumption) : false = true)) | (all_goals refine nx_seq ?_; all_goals refine nx_region ?_; all_goals (refine nx_op ?_; refine opw_yld (Yld.move rfl) rfl ?_); all_goals (refine nx_op ?_; refine opw_yld (Yld.assign rfl) rfl ?_); all_goals refine nx_nil ?_; all_goals refine kp_code_normal ?_; all_goals refine nx_ret ?_; all_goals refine kp_code_ret ?_; all_goals refine kp_code_ret ?_; all_goals (exact res1 (by first | exact .inl rfl | exact .inr rfl) Tryd.results92 rfl [wc b T.t d' l'] inferInstance ⟨d', l', rfl, by decide, rfl⟩)) | (all_goals refine nx_skip ?_)); all_goals refine kp_code_normal ?_; all_goals refine nx_seq ?_; all_goals refine nx_seq ?_; all_goals refine nx_region ?_; all_goals (refine nx_op ?_; refine opw_yld (Yld.fieldAddr rfl) rfl ?_); all_goals (refine nx_op ?_; refine opw_yld (Yld.load rfl) rfl ?_); all_goals (refine nx_op ?_; refine opw_yld (Yld.cmp rfl rfl rfl) rfl ?_); all_goals refine nx_nil ?_; all_goals refine kp_code_normal ?_; all_goals (refine nx_cond rfl (fun hc => ?_) (fun hc => ?_)); all_goals (first | (exact Bool.noConfusion (hc.symm.trans (by first | rfl | assumption) : true = false)) | (exact Bool.noConfusion (hc.symm.trans (by first | rfl | assumption) : false = true)) | (all_goals refine nx_seq ?_; all_goals refine nx_region ?_; all_goals (refine nx_op ?_; refine opw_yld (Yld.assign rfl) rfl ?_); all_goals refine nx_nil ?_; all_goals refine kp_code_normal ?_; all_goals refine nx_ret ?_; all_goals refine kp_code_ret ?_; all_goals refine kp_code_ret ?_; all_goals (exact res1 (by first | exact .inl rfl | exact .inr rfl) Tryd.results92 rfl [wc b T.t d' l'] inferInstance ⟨d', l', rfl, by decide, rfl⟩)) | (all_goals refine nx_skip ?_)); all_goals refine kp_code_normal ?_; all_goals refine nx_region ?_; all_goals (refine nx_op ?_; refine opw_yld (Yld.fieldAddr rfl) rfl ?_); all_goals (refine nx_op ?_; refine opw_yld (Yld.load rfl) rfl ?_); all_goals (refine nx_op ?_; refine opw_yld (Yld.assign rfl) rfl ?_); all_goals refine nx_nil ?_) | (all_goals refine nx_skip ?_))
    all_goals refine kp_code_normal ?_
    all_goals refine nx_seq ?_
    all_goals refine nx_seq ?_
    all_goals refine nx_region ?_
    all_goals (refine nx_op ?_; refine opw_yld (Yld.move rfl) rfl ?_)
    all_goals (refine nx_op ?_; refine opw_yld (Yld.move rfl) rfl ?_)
    all_goals (refine nx_op ?_; (refine opw_call rfl (sp130 (hT.mono (by simp +contextual)) _ (b := b) (hb := by intro y hy; simp only [wc, List.mem_singleton] at hy; subst hy; simp; first | exact ⟨rfl, rfl⟩ | exact Or.inl ⟨rfl, rfl⟩ | exact Or.inr (Or.inl ⟨rfl, rfl⟩))) inferInstance rfl ?_; rintro _ _ ⟨rfl, rfl⟩; simp only [List.nil_append]))
    all_goals (refine nx_op ?_; refine opw_yld (Yld.cmp rfl rfl rfl) rfl ?_)
    all_goals refine nx_nil ?_
    all_goals refine kp_code_normal ?_
    all_goals (refine nx_cond rfl (fun hc => ?_) (fun hc => ?_))
    all_goals (first | (exact Bool.noConfusion (hc.symm.trans (by first | rfl | assumption) : true = false)) | (exact Bool.noConfusion (hc.symm.trans (by first | rfl | assumption) : false = true)) | (all_goals refine nx_seq ?_; all_goals refine nx_region ?_; all_goals (refine nx_op ?_; refine opw_yld (Yld.assign rfl) rfl ?_); all_goals refine nx_nil ?_; all_goals refine kp_code_normal ?_; all_goals refine nx_ret ?_; all_goals refine kp_code_ret ?_; all_goals (exact res1 (by first | exact .inl rfl | exact .inr rfl) Tryd.results92 rfl [wc b T.t d' l'] inferInstance ⟨d', l', rfl, by decide, rfl⟩)) | (all_goals refine nx_skip ?_))
    all_goals refine kp_code_normal ?_
    all_goals refine nx_seq ?_
    all_goals refine nx_region ?_
    all_goals (refine nx_op ?_; refine opw_yld (Yld.move rfl) rfl ?_)
    all_goals (refine nx_op ?_; refine opw_yld (Yld.move rfl) rfl ?_)
    all_goals (refine nx_op ?_; refine opw_yld (Yld.nilCheck rfl) rfl ?_)
    all_goals (refine nx_op ?_; refine opw_yld (Yld.fieldAddr rfl) rfl ?_)
    all_goals (refine nx_op ?_; refine opw_store rfl rfl rfl ?_)
    all_goals refine nx_nil ?_
    all_goals refine kp_code_normal ?_
    all_goals refine nx_seq ?_
    all_goals refine nx_region ?_
    all_goals (refine nx_op ?_; refine opw_yld (Yld.assign rfl) rfl ?_)
    all_goals refine nx_nil ?_
    all_goals refine kp_code_normal ?_
    all_goals refine nx_ret ?_
    all_goals (exact res1 (by first | exact .inl rfl | exact .inr rfl) Tryd.results92 rfl [wc b T.t d' l'] inferInstance ⟨d', l', rfl, by decide, rfl⟩)
  have hb3 : (f3 == 0) = false := by simpa using h3
  by_cases hk2 : kindA (abs T.S) f3 = 2
  · have hr : stepA (abs T.S) R dir (bs nm) fuel = .ok (f3, k) := by simp [stepA, hfd, hk, hfo, h3, hk2]
    have hb2 : (kindA (abs T.S) f3 != 2) = false := by simpa using hk2
    rw [hr]
    all_goals refine nx_seq ?_
    all_goals refine nx_region ?_
    all_goals (refine nx_op ?_; refine opw_yld (Yld.assign rfl) rfl ?_)
    all_goals refine nx_nil ?_
    all_goals refine kp_code_normal ?_
    all_goals refine nx_seq ?_
    all_goals refine nx_draw (fun i => match i with | 3 => .read | 7 => .read | 9 => .hard | _ => .stab) [] [0, 1, 2, 3, 4, 5, 6, 7, 8, 9, 10, 11, 12, 13, 14] rfl (by kernel_rfl) inferInstance ?_
    all_goals (refine wk_stab rfl rfl (Yld.move rfl) rfl ?_)
    all_goals (refine wk_stab rfl rfl (Yld.nilCheck rfl) rfl ?_)
    all_goals (refine wk_stab rfl rfl (Yld.fieldAddr rfl) rfl ?_)
    all_goals (refine wk_read rfl rfl (Yld.load rfl) rfl ?_)
    all_goals (refine wk_stab rfl rfl (Yld.move rfl) rfl ?_)
    all_goals (refine wk_stab rfl rfl (Yld.nilCheck rfl) rfl ?_)
    all_goals (refine wk_stab rfl rfl (Yld.fieldAddr rfl) rfl ?_)
    all_goals (refine wk_read rfl rfl (Yld.load rfl) rfl ?_)
    all_goals (refine wk_stab rfl rfl (Yld.move rfl) rfl ?_)
    all_goals ((refine wk_hard rfl rfl ?_; (refine opw_call rfl (sp61 (hT.mono (by simp +contextual)) dir nm) inferInstance rfl ?_; rintro _ _ ⟨rfl, rfl⟩; simp only [List.nil_append, findR_abs, hfd, pairV]); refine nx_keeps inferInstance ?_))
    all_goals (refine wk_stab rfl rfl (Yld.move rfl) rfl ?_)
    all_goals (refine wk_stab rfl rfl (Yld.extract rfl rfl) rfl ?_)
    all_goals (refine wk_stab rfl rfl (Yld.extract rfl rfl) rfl ?_)
    all_goals (refine wk_stab rfl rfl (Yld.assign rfl) rfl ?_)
    all_goals (refine wk_stab rfl rfl (Yld.assign rfl) rfl ?_)
    all_goals refine wk_nil ?_
    all_goals refine kp_code_normal ?_
    all_goals refine nx_seq ?_
    all_goals refine nx_seq ?_
    all_goals refine nx_region ?_
    all_goals (refine nx_op ?_; refine opw_yld (Yld.move rfl) rfl ?_)
    all_goals (refine nx_op ?_; refine opw_yld (Yld.cmp rfl rfl rfl) rfl ?_)
    all_goals refine nx_nil ?_
    all_goals refine kp_code_normal ?_
    all_goals (refine nx_cond rfl (fun hc => ?_) (fun hc => ?_))
    all_goals (first | (exact Bool.noConfusion (hc.symm.trans (by first | rfl | assumption) : true = false)) | (exact Bool.noConfusion (hc.symm.trans (by first | rfl | assumption) : false = true)) | (all_goals refine nx_seq ?_; all_goals refine nx_region ?_; all_goals (refine nx_op ?_; refine opw_yld (Yld.move rfl) rfl ?_); all_goals (refine nx_op ?_; refine opw_yld (Yld.assign rfl) rfl ?_); all_goals refine nx_nil ?_; all_goals refine kp_code_normal ?_; all_goals refine nx_ret ?_; all_goals refine kp_code_ret ?_; all_goals (exact res1 (by first | exact .inl rfl | exact .inr rfl) Tryd.results92 rfl [wc b T.t f3 l'] inferInstance ⟨f3, l', rfl, rfl, rfl, h1, h2⟩)) | (all_goals refine nx_skip ?_))
    all_goals refine kp_code_normal ?_
    all_goals refine nx_seq ?_
    all_goals refine nx_seq ?_
    all_goals refine nx_region ?_
    all_goals (refine nx_op ?_; refine opw_yld (Yld.move rfl) rfl ?_)
    all_goals (refine nx_op ?_; refine opw_yld (Yld.move rfl) rfl ?_)
    all_goals (refine nx_op ?_; (refine opw_call rfl (sp130 (hT.mono (by simp +contextual)) _ (b := b) (hb := by intro y hy; simp only [wc, List.mem_singleton] at hy; subst hy; simp; first | exact ⟨rfl, rfl⟩ | exact Or.inl ⟨rfl, rfl⟩ | exact Or.inr (Or.inl ⟨rfl, rfl⟩))) inferInstance rfl ?_; rintro _ _ ⟨rfl, rfl⟩; simp only [List.nil_append]))
    all_goals (refine nx_op ?_; refine opw_yld (Yld.cmp rfl rfl rfl) rfl ?_)
    all_goals refine nx_nil ?_
    all_goals refine kp_code_normal ?_
    all_goals (refine nx_cond rfl (fun hc => ?_) (fun hc => ?_))
    all_goals (first | (exact Bool.noConfusion (hc.symm.trans (by first | rfl | assumption) : true = false)) | (exact Bool.noConfusion (hc.symm.trans (by first | rfl | assumption) : false = true)) | (all_goals refine nx_seq ?_; all_goals refine nx_region ?_; all_goals (refine nx_op ?_; refine opw_yld (Yld.move rfl) rfl ?_); all_goals (refine nx_op ?_; refine opw_yld (Yld.move rfl) rfl ?_); all_goals (refine nx_op ?_; (refine opw_call rfl (h131 _ (hT.mono (by simp +contextual))) inferInstance rfl ?_; rintro v B ⟨d', l', rfl, rfl, h1, h2⟩; simp only [List.cons_append, List.nil_append, wc, foV])); all_goals (refine nx_op ?_; refine opw_yld (Yld.move rfl) rfl ?_); all_goals (refine nx_op ?_; refine opw_yld (Yld.extract rfl rfl) rfl ?_); all_goals (refine nx_op ?_; refine opw_yld (Yld.extract rfl rfl) rfl ?_); all_goals (refine nx_op ?_; refine opw_alc Alc.alloc rfl (fun b7 => ?_)); all_goals (refine nx_op ?_; refine opw_storeAgg rfl rfl rfl (by simp [Value.oneCell']) ?_); all_goals (refine nx_op ?_; refine opw_yld (Yld.assign rfl) rfl ?_); all_goals refine nx_nil ?_; all_goals refine kp_code_normal ?_; all_goals refine nx_seq ?_; all_goals refine nx_seq ?_; all_goals refine nx_region ?_; all_goals (refine nx_op ?_; refine opw_yld (Yld.move rfl) rfl ?_); all_goals (refine nx_op ?_; refine opw_yld (Yld.cmp rfl rfl rfl) rfl ?_); all_goals refine nx_nil ?_; all_goals refine kp_code_normal ?_; all_goals (refine nx_cond rfl (fun hc => ?_) (fun hc => ?_)); all_goals (first | (exact Bool.noConfusion (hc.symm.trans (by first | rfl | assumption) : true = false)) | (exact Bool.noConfusion (hc.symm.trans (by first | rfl | assumption) : false = true)) | (all_goals refine nx_seq ?_; all_goals refine nx_region ?_; all_goals (refine nx_op ?_; refine opw_yld (Yld.move rfl) rfl ?_); all_goals (refine nx_op ?_; refine opw_yld (Yld.assign rfl) rfl ?_); all_goals refine nx_nil ?_; all_goals refine kp_code_normal ?_; all_goals refine nx_ret ?_; all_goals refine kp_code_ret ?_; all_goals refine kp_code_ret ?_; all_goals (exact res1 (by first | exact .inl rfl | exact .inr rfl) Tryd.results92 rfl [wc b T.t f3 l'] inferInstance ⟨f3, l', rfl, rfl, rfl, h1, h2⟩)) | (all_goals refine nx_skip ?_)); all_goals refine kp_code_normal ?_; all_goals refine nx_seq ?_; all_goals refine nx_seq ?_; all_goals refine nx_region ?_; all_goals (refine nx_op ?_; refine opw_yld (Yld.fieldAddr rfl) rfl ?_); all_goals (refine nx_op ?_; refine opw_yld (Yld.load rfl) rfl ?_); all_goals (refine nx_op ?_; refine opw_yld (Yld.cmp rfl rfl rfl) rfl ?_); all_goals refine nx_nil ?_; all_goals refine kp_code_normal ?_; all_goals (refine nx_cond rfl (fun hc => ?_) (fun hc => ?_)); all_goals (first | (exact Bool.noConfusion (hc.symm.trans (by first | rfl | assumption) : true = false)) | (exact Bool.noConfusion (hc.symm.trans (by first | rfl | assumption) : false = true)) | (all_goals refine nx_seq ?_; all_goals refine nx_region ?_; all_goals (refine nx_op ?_; refine opw_yld (Yld.assign rfl) rfl ?_); all_goals refine nx_nil ?_; all_goals refine kp_code_normal ?_; all_goals refine nx_ret ?_; all_goals refine kp_code_ret ?_; all_goals refine kp_code_ret ?_; all_goals (exact res1 (by first | exact .inl rfl | exact .inr rfl) Tryd.results92 rfl [wc b T.t f3 l'] inferInstance ⟨f3, l', rfl, rfl, rfl, h1, h2⟩)) | (all_goals refine nx_skip ?_)); all_goals refine kp_code_normal ?_; all_goals refine nx_region ?_; all_goals (refine nx_op ?_; refine opw_yld (Yld.fieldAddr rfl) rfl ?_); all_goals (refine nx_op ?_; refine opw_yld (Yld.load rfl) rfl ?_); all_goals (refine nx_op ?_; refine opw_yld (Yld.assign rfl) rfl ?_); all_goals refine nx_nil ?_) | (all_goals refine nx_skip ?_))
    all_goals refine kp_code_normal ?_
    all_goals refine nx_seq ?_
    all_goals refine nx_seq ?_
    all_goals refine nx_region ?_
    all_goals (refine nx_op ?_; refine opw_yld (Yld.move rfl) rfl ?_)
    all_goals (refine nx_op ?_; refine opw_yld (Yld.move rfl) rfl ?_)
    all_goals (refine nx_op ?_; (refine opw_call rfl (sp130 (hT.mono (by simp +contextual)) _ (b := b) (hb := by intro y hy; simp only [wc, List.mem_singleton] at hy; subst hy; simp; first | exact ⟨rfl, rfl⟩ | exact Or.inl ⟨rfl, rfl⟩ | exact Or.inr (Or.inl ⟨rfl, rfl⟩))) inferInstance rfl ?_; rintro _ _ ⟨rfl, rfl⟩; simp only [List.nil_append]))
    all_goals (refine nx_op ?_; refine opw_yld (Yld.cmp rfl rfl rfl) rfl ?_)
    all_goals refine nx_nil ?_
    all_goals refine kp_code_normal ?_
    all_goals (refine nx_cond rfl (fun hc => ?_) (fun hc => ?_))
    all_goals (first | (exact Bool.noConfusion (hc.symm.trans (by first | rfl | assumption) : true = false)) | (exact Bool.noConfusion (hc.symm.trans (by first | rfl | assumption) : false = true)) | (all_goals refine nx_seq ?_; all_goals refine nx_region ?_; all_goals (refine nx_op ?_; refine opw_yld (Yld.assign rfl) rfl ?_); all_goals refine nx_nil ?_; all_goals refine kp_code_normal ?_; all_goals refine nx_ret ?_; all_goals refine kp_code_ret ?_; all_goals (exact res1 (by first | exact .inl rfl | exact .inr rfl) Tryd.results92 rfl [wc b T.t f3 l'] inferInstance ⟨f3, l', rfl, rfl, rfl, h1, h2⟩)) | (all_goals refine nx_skip ?_))
    all_goals refine kp_code_normal ?_
    all_goals refine nx_seq ?_
    all_goals refine nx_region ?_
    all_goals (refine nx_op ?_; refine opw_yld (Yld.move rfl) rfl ?_)
    all_goals (refine nx_op ?_; refine opw_yld (Yld.move rfl) rfl ?_)
    all_goals (refine nx_op ?_; refine opw_yld (Yld.nilCheck rfl) rfl ?_)
    all_goals (refine nx_op ?_; refine opw_yld (Yld.fieldAddr rfl) rfl ?_)
    all_goals (refine nx_op ?_; refine opw_store rfl rfl rfl ?_)
    all_goals refine nx_nil ?_
    all_goals refine kp_code_normal ?_
    all_goals refine nx_seq ?_
    all_goals refine nx_region ?_
    all_goals (refine nx_op ?_; refine opw_yld (Yld.assign rfl) rfl ?_)
    all_goals refine nx_nil ?_
    all_goals refine kp_code_normal ?_
    all_goals refine nx_ret ?_
    all_goals (exact res1 (by first | exact .inl rfl | exact .inr rfl) Tryd.results92 rfl [wc b T.t f3 l'] inferInstance ⟨f3, l', rfl, rfl, rfl, h1, h2⟩)
  · have hr : stepA (abs T.S) R dir (bs nm) fuel = .error 20 := by simp [stepA, hfd, hk, hfo, h3, hk2]
    have hb2 : (kindA (abs T.S) f3 != 2) = true := by simpa using hk2
    rw [hr]
    all_goals refine nx_seq ?_
    all_goals refine nx_region ?_
    all_goals (refine nx_op ?_; refine opw_yld (Yld.assign rfl) rfl ?_)
    all_goals refine nx_nil ?_
    all_goals refine kp_code_normal ?_
    all_goals refine nx_seq ?_
    all_goals refine nx_draw (fun i => match i with | 3 => .read | 7 => .read | 9 => .hard | _ => .stab) [] [0, 1, 2, 3, 4, 5, 6, 7, 8, 9, 10, 11, 12, 13, 14] rfl (by kernel_rfl) inferInstance ?_
    all_goals (refine wk_stab rfl rfl (Yld.move rfl) rfl ?_)
    all_goals (refine wk_stab rfl rfl (Yld.nilCheck rfl) rfl ?_)
    all_goals (refine wk_stab rfl rfl (Yld.fieldAddr rfl) rfl ?_)
    all_goals (refine wk_read rfl rfl (Yld.load rfl) rfl ?_)
    all_goals (refine wk_stab rfl rfl (Yld.move rfl) rfl ?_)
    all_goals (refine wk_stab rfl rfl (Yld.nilCheck rfl) rfl ?_)
    all_goals (refine wk_stab rfl rfl (Yld.fieldAddr rfl) rfl ?_)
    all_goals (refine wk_read rfl rfl (Yld.load rfl) rfl ?_)
    all_goals (refine wk_stab rfl rfl (Yld.move rfl) rfl ?_)
    all_goals ((refine wk_hard rfl rfl ?_; (refine opw_call rfl (sp61 (hT.mono (by simp +contextual)) dir nm) inferInstance rfl ?_; rintro _ _ ⟨rfl, rfl⟩; simp only [List.nil_append, findR_abs, hfd, pairV]); refine nx_keeps inferInstance ?_))
    all_goals (refine wk_stab rfl rfl (Yld.move rfl) rfl ?_)
    all_goals (refine wk_stab rfl rfl (Yld.extract rfl rfl) rfl ?_)
    all_goals (refine wk_stab rfl rfl (Yld.extract rfl rfl) rfl ?_)
    all_goals (refine wk_stab rfl rfl (Yld.assign rfl) rfl ?_)
    all_goals (refine wk_stab rfl rfl (Yld.assign rfl) rfl ?_)
    all_goals refine wk_nil ?_
    all_goals refine kp_code_normal ?_
    all_goals refine nx_seq ?_
    all_goals refine nx_seq ?_
    all_goals refine nx_region ?_
    all_goals (refine nx_op ?_; refine opw_yld (Yld.move rfl) rfl ?_)
    all_goals (refine nx_op ?_; refine opw_yld (Yld.cmp rfl rfl rfl) rfl ?_)
    all_goals refine nx_nil ?_
    all_goals refine kp_code_normal ?_
    all_goals (refine nx_cond rfl (fun hc => ?_) (fun hc => ?_))
    all_goals (first | (exact Bool.noConfusion (hc.symm.trans (by first | rfl | assumption) : true = false)) | (exact Bool.noConfusion (hc.symm.trans (by first | rfl | assumption) : false = true)) | (all_goals refine nx_seq ?_; all_goals refine nx_region ?_; all_goals (refine nx_op ?_; refine opw_yld (Yld.move rfl) rfl ?_); all_goals (refine nx_op ?_; refine opw_yld (Yld.assign rfl) rfl ?_); all_goals refine nx_nil ?_; all_goals refine kp_code_normal ?_; all_goals refine nx_ret ?_; all_goals refine kp_code_ret ?_; all_goals (exact res1 (by first | exact .inl rfl | exact .inr rfl) Tryd.results92 rfl [wc b T.t d' l'] inferInstance ⟨d', l', rfl, by decide, rfl⟩)) | (all_goals refine nx_skip ?_))
    all_goals refine kp_code_normal ?_
    all_goals refine nx_seq ?_
    all_goals refine nx_seq ?_
    all_goals refine nx_region ?_
    all_goals (refine nx_op ?_; refine opw_yld (Yld.move rfl) rfl ?_)
    all_goals (refine nx_op ?_; refine opw_yld (Yld.move rfl) rfl ?_)
    all_goals (refine nx_op ?_; (refine opw_call rfl (sp130 (hT.mono (by simp +contextual)) _ (b := b) (hb := by intro y hy; simp only [wc, List.mem_singleton] at hy; subst hy; simp; first | exact ⟨rfl, rfl⟩ | exact Or.inl ⟨rfl, rfl⟩ | exact Or.inr (Or.inl ⟨rfl, rfl⟩))) inferInstance rfl ?_; rintro _ _ ⟨rfl, rfl⟩; simp only [List.nil_append]))
    all_goals (refine nx_op ?_; refine opw_yld (Yld.cmp rfl rfl rfl) rfl ?_)
    all_goals refine nx_nil ?_
    all_goals refine kp_code_normal ?_
    all_goals (refine nx_cond rfl (fun hc => ?_) (fun hc => ?_))
    all_goals (first | (exact Bool.noConfusion (hc.symm.trans (by first | rfl | assumption) : true = false)) | (exact Bool.noConfusion (hc.symm.trans (by first | rfl | assumption) : false = true)) | (all_goals refine nx_seq ?_; all_goals refine nx_region ?_; all_goals (refine nx_op ?_; refine opw_yld (Yld.move rfl) rfl ?_); all_goals (refine nx_op ?_; refine opw_yld (Yld.move rfl) rfl ?_); all_goals (refine nx_op ?_; (refine opw_call rfl (h131 _ (hT.mono (by simp +contextual))) inferInstance rfl ?_; rintro v B ⟨d', l', rfl, rfl, h1, h2⟩; simp only [List.cons_append, List.nil_append, wc, foV])); all_goals (refine nx_op ?_; refine opw_yld (Yld.move rfl) rfl ?_); all_goals (refine nx_op ?_; refine opw_yld (Yld.extract rfl rfl) rfl ?_); all_goals (refine nx_op ?_; refine opw_yld (Yld.extract rfl rfl) rfl ?_); all_goals (refine nx_op ?_; refine opw_alc Alc.alloc rfl (fun b7 => ?_)); all_goals (refine nx_op ?_; refine opw_storeAgg rfl rfl rfl (by simp [Value.oneCell']) ?_); all_goals (refine nx_op ?_; refine opw_yld (Yld.assign rfl) rfl ?_); all_goals refine nx_nil ?_; all_goals refine kp_code_normal ?_; all_goals refine nx_seq ?_; all_goals refine nx_seq ?_; all_goals refine nx_region ?_; all_goals (refine nx_op ?_; refine opw_yld (Yld.move rfl) rfl ?_); all_goals (refine nx_op ?_; refine opw_yld (Yld.cmp rfl rfl rfl) rfl ?_); all_goals refine nx_nil ?_; all_goals refine kp_code_normal ?_; all_goals (refine nx_cond rfl (fun hc => ?_) (fun hc => ?_)); all_goals (first | (exact Bool.noConfusion (hc.symm.trans (by first | rfl | assumption) : true = false)) | (exact Bool.noConfusion (hc.symm.trans (by first | rfl | assumption) : false = true)) | (all_goals refine nx_seq ?_; all_goals refine nx_region ?_; all_goals (refine nx_op ?_; refine opw_yld (Yld.move rfl) rfl ?_); all_goals (refine nx_op ?_; refine opw_yld (Yld.assign rfl) rfl ?_); all_goals refine nx_nil ?_; all_goals refine kp_code_normal ?_; all_goals refine nx_ret ?_; all_goals refine kp_code_ret ?_; all_goals refine kp_code_ret ?_; all_goals (exact res1 (by first | exact .inl rfl | exact .inr rfl) Tryd.results92 rfl [wc b T.t d' l'] inferInstance ⟨d', l', rfl, by decide, rfl⟩)) | (all_goals refine nx_skip ?_)); all_goals refine kp_code_normal ?_; all_goals refine nx_seq ?_; all_goals refine nx_seq ?_; all_goals refine nx_region ?_; all_goals (refine nx_op ?_; refine opw_yld (Yld.fieldAddr rfl) rfl ?_); all_goals (refine nx_op ?_; refine opw_yld (Yld.load rfl) rfl ?_); all_goals (refine nx_op ?_; refine opw_yld (Yld.cmp rfl rfl rfl) rfl ?_); all_goals refine nx_nil ?_; all_goals refine kp_code_normal ?_; all_goals (refine nx_cond rfl (fun hc => ?_) (fun hc => ?_)); all_goals (first | (exact Bool.noConfusion (hc.symm.trans (by first | rfl | assumption) : true = false)) | (exact Bool.noConfusion (hc.symm.trans (by first | rfl | assumption) : false = true)) | (all_goals refine nx_seq ?_; all_goals refine nx_region ?_; all_goals (refine nx_op ?_; refine opw_yld (Yld.assign rfl) rfl ?_); all_goals refine nx_nil ?_; all_goals refine kp_code_normal ?_; all_goals refine nx_ret ?_; all_goals refine kp_code_ret ?_; all_goals refine kp_code_ret ?_; all_goals (exact res1 (by first | exact .inl rfl | exact .inr rfl) Tryd.results92 rfl [wc b T.t d' l'] inferInstance ⟨d', l', rfl, by decide, rfl⟩)) | (all_goals refine nx_skip ?_)); all_goals refine kp_code_normal ?_; all_goals refine nx_region ?_; all_goals (refine nx_op ?_; refine opw_yld (Yld.fieldAddr rfl) rfl ?_); all_goals (refine nx_op ?_; refine opw_yld (Yld.load rfl) rfl ?_); all_goals (refine nx_op ?_; refine opw_yld (Yld.assign rfl) rfl ?_); all_goals refine nx_nil ?_) | (all_goals refine nx_skip ?_))
    all_goals refine kp_code_normal ?_
    all_goals refine nx_seq ?_
    all_goals refine nx_seq ?_
    all_goals refine nx_region ?_
    all_goals (refine nx_op ?_; refine opw_yld (Yld.move rfl) rfl ?_)
    all_goals (refine nx_op ?_; refine opw_yld (Yld.move rfl) rfl ?_)
    all_goals (refine nx_op ?_; (refine opw_call rfl (sp130 (hT.mono (by simp +contextual)) _ (b := b) (hb := by intro y hy; simp only [wc, List.mem_singleton] at hy; subst hy; simp; first | exact ⟨rfl, rfl⟩ | exact Or.inl ⟨rfl, rfl⟩ | exact Or.inr (Or.inl ⟨rfl, rfl⟩))) inferInstance rfl ?_; rintro _ _ ⟨rfl, rfl⟩; simp only [List.nil_append]))
    all_goals (refine nx_op ?_; refine opw_yld (Yld.cmp rfl rfl rfl) rfl ?_)
    all_goals refine nx_nil ?_
    all_goals refine kp_code_normal ?_
    all_goals (refine nx_cond rfl (fun hc => ?_) (fun hc => ?_))
    all_goals (first | (exact Bool.noConfusion (hc.symm.trans (by first | rfl | assumption) : true = false)) | (exact Bool.noConfusion (hc.symm.trans (by first | rfl | assumption) : false = true)) | (all_goals refine nx_seq ?_; all_goals refine nx_region ?_; all_goals (refine nx_op ?_; refine opw_yld (Yld.assign rfl) rfl ?_); all_goals refine nx_nil ?_; all_goals refine kp_code_normal ?_; all_goals refine nx_ret ?_; all_goals refine kp_code_ret ?_; all_goals (exact res1 (by first | exact .inl rfl | exact .inr rfl) Tryd.results92 rfl [wc b T.t d' l'] inferInstance ⟨d', l', rfl, by decide, rfl⟩)) | (all_goals refine nx_skip ?_))
    all_goals refine kp_code_normal ?_
    all_goals refine nx_seq ?_
    all_goals refine nx_region ?_
    all_goals (refine nx_op ?_; refine opw_yld (Yld.move rfl) rfl ?_)
    all_goals (refine nx_op ?_; refine opw_yld (Yld.move rfl) rfl ?_)
    all_goals (refine nx_op ?_; refine opw_yld (Yld.nilCheck rfl) rfl ?_)
    all_goals (refine nx_op ?_; refine opw_yld (Yld.fieldAddr rfl) rfl ?_)
    all_goals (refine nx_op ?_; refine opw_store rfl rfl rfl ?_)
    all_goals refine nx_nil ?_
    all_goals refine kp_code_normal ?_
    all_goals refine nx_seq ?_
    all_goals refine nx_region ?_
    all_goals (refine nx_op ?_; refine opw_yld (Yld.assign rfl) rfl ?_)
    all_goals refine nx_nil ?_
    all_goals refine kp_code_normal ?_
    all_goals refine nx_ret ?_
    all_goals (exact res1 (by first | exact .inl rfl | exact .inr rfl) Tryd.results92 rfl [wc b T.t d' l'] inferInstance ⟨d', l', rfl, by decide, rfl⟩)
end
end Go.Proofs.YtdobndclhbkooaaDoor
