/- What is told of a node, and where a link leads. Conditions: the tree lies in the memory that is kept. -/
import Derived.Test.YtdobndclhbkooaaDoorNd9
namespace Go.Proofs.YtdobndclhbkooaaDoor
open Go Go.SL
set_option maxRecDepth 100000
set_option linter.unusedVariables false

def dirs (l : List Ent) : Nat := l.countP fun e => e.kind == 2
def infoL (f : FileR) : Int := if f.kind = 2 then (if f.parent = 0 then 0 else 2 + (dirs f.ents : Int)) else f.links
def infoS (f : FileR) : Int := if f.kind = 2 then f.ents.length else f.data.length
def infoV (n : Int) (f : FileR) : Value := .agg #[.int .i64 n, .int .i64 f.kind, .int .i64 f.mode, .int .i64 (infoL f), .int .i64 (infoS f)]
def infoNil : Value := .agg #[.int .i64 0, .int .i64 0, .int .i64 0, .int .i64 0, .int .i64 0]
def infoR (n : Int) : Option FileR → Value
  | none => .tuple #[infoNil, .bool false]
  | some f => .tuple #[infoV n f, .bool true]

section
variable {F : Chunk} {T : Tr}
theorem sp19n (n : Int) (F : Chunk) : Sp Tryd.prog 19 [.pointer none, .int .i64 n] F [] (fun v B => v = infoR n none ∧ B = []) := by
  refine sp_enter Tryd.func19 rfl Tryd.ntmps19 rfl (fun g => ?_)
  simp only [argFr, List.nil_append, Nat.reduceAdd]
  all_goals (refine nx_seq ?_; refine nx_region ?_)
  all_goals (refine nx_op ?_; refine opw_alc Alc.alloc rfl (fun b4 => ?_))
  all_goals (refine nx_op ?_; refine opw_yld (Yld.assign rfl) rfl ?_; refine nx_nil ?_; refine kp_code_normal ?_; refine nx_seq ?_; refine nx_region ?_; refine nx_op ?_; refine opw_yld (Yld.move rfl) rfl ?_; refine nx_op ?_; refine opw_yld (Yld.move rfl) rfl ?_)
  all_goals (refine nx_op ?_; (refine opw_call rfl (sp67n _ _) inferInstance rfl ?_; rintro _ _ ⟨rfl, rfl⟩; simp only [List.nil_append]))
  all_goals (refine nx_op ?_; refine opw_yld (Yld.assign rfl) rfl ?_; refine nx_nil ?_; refine kp_code_normal ?_; refine nx_seq ?_; refine nx_seq ?_; refine nx_region ?_; refine nx_op ?_; refine opw_yld (Yld.move rfl) rfl ?_; refine nx_op ?_; refine opw_yld (Yld.eqNil rfl rfl) rfl ?_; refine nx_nil ?_; refine kp_code_normal ?_)
  all_goals (refine nx_cond rfl (fun hc => ?_) (fun hc => ?_))
  all_goals (first | (exact Bool.noConfusion (hc.symm.trans (by first | rfl | assumption) : true = false)) | (exact Bool.noConfusion (hc.symm.trans (by first | rfl | assumption) : false = true)) | (all_goals (refine nx_seq ?_; refine nx_region ?_; refine nx_op ?_; refine opw_yld (Yld.build (cs := [.int .i64 0, .int .i64 0, .int .i64 0, .int .i64 0, .int .i64 0]) rfl rfl) rfl ?_); all_goals (refine nx_op ?_; refine opw_storeAgg rfl rfl rfl (by simp [Value.oneCell']) ?_); all_goals (refine nx_op ?_; refine opw_yld (Yld.assign rfl) rfl ?_; refine nx_nil ?_; refine kp_code_normal ?_; refine nx_ret ?_; refine kp_code_ret ?_); all_goals (exact resC2 (by first | exact .inl rfl | exact .inr rfl) Tryd.results19 rfl rfl [] inferInstance ⟨rfl, rfl⟩)) | (all_goals refine nx_skip ?_))
  all_goals (refine kp_code_normal ?_; refine nx_seq ?_; refine nx_draw (fun i => match i with | 4 => .read | 8 => .read | 12 => .read | 16 => .read | 19 => .alloc | 20 => .hard | _ => .stab) [] [0, 1, 2, 3, 4, 5, 6, 7, 8, 9, 10, 11, 12, 13, 14, 15, 16, 17, 18, 19, 20] rfl (by kernel_rfl) inferInstance ?_)
  all_goals (refine wk_stab rfl rfl (Yld.move rfl) rfl ?_)
  all_goals (refine wk_stab rfl rfl (Yld.move rfl) rfl ?_)
  all_goals (refine wk_stab rfl rfl (Yld.nilCheck rfl) rfl ?_)
  all_goals (refine wk_stab rfl rfl (Yld.fieldAddr rfl) rfl ?_)
  all_goals (refine wk_read rfl rfl (Yld.load rfl) rfl ?_)
  all_goals (refine wk_stab rfl rfl (Yld.move rfl) rfl ?_)
  all_goals (refine wk_stab rfl rfl (Yld.nilCheck rfl) rfl ?_)
  all_goals (refine wk_stab rfl rfl (Yld.fieldAddr rfl) rfl ?_)
  all_goals (refine wk_read rfl rfl (Yld.load rfl) rfl ?_)
  all_goals (refine wk_stab rfl rfl (Yld.move rfl) rfl ?_)
  all_goals (refine wk_stab rfl rfl (Yld.nilCheck rfl) rfl ?_)
  all_goals (refine wk_stab rfl rfl (Yld.fieldAddr rfl) rfl ?_)
  all_goals (refine wk_read rfl rfl (Yld.load rfl) rfl ?_)
  all_goals (refine wk_stab rfl rfl (Yld.move rfl) rfl ?_)
  all_goals (refine wk_stab rfl rfl (Yld.nilCheck rfl) rfl ?_)
  all_goals (refine wk_stab rfl rfl (Yld.fieldAddr rfl) rfl ?_)
  all_goals (refine wk_read rfl rfl (Yld.load rfl) rfl ?_)
  all_goals (refine wk_stab rfl rfl (Yld.lenSlice rfl) rfl ?_)
  all_goals (refine wk_stab rfl rfl (Yld.build rfl rfl) rfl ?_)
  all_goals (refine wk_alloc rfl rfl Alc.alloc rfl (fun b7 => ?_))
  all_goals ((refine wk_hard rfl rfl ?_; refine opw_storeAgg rfl rfl rfl (by simp [Value.oneCell']) ?_; refine nx_keeps inferInstance ?_))
  all_goals (refine wk_nil ?_; refine kp_code_normal ?_; refine nx_seq ?_; refine nx_seq ?_; refine nx_region ?_; refine nx_op ?_; refine opw_yld (Yld.move rfl) rfl ?_; refine nx_op ?_; refine opw_yld (Yld.nilCheck rfl) rfl ?_; refine nx_op ?_; refine opw_yld (Yld.fieldAddr rfl) rfl ?_; refine nx_op ?_; refine opw_yld (Yld.load rfl) rfl ?_; refine nx_op ?_; refine opw_yld (Yld.cmp rfl rfl rfl) rfl ?_; refine nx_nil ?_; refine kp_code_normal ?_)
  all_goals (refine nx_cond rfl (fun hc => ?_) (fun hc => ?_))
  all_goals (first | (exact Bool.noConfusion (hc.symm.trans (by first | rfl | assumption) : true = false)) | (exact Bool.noConfusion (hc.symm.trans (by first | rfl | assumption) : false = true)) | (all_goals (refine nx_seq ?_; refine nx_region ?_; refine nx_op ?_; refine opw_yld (Yld.move rfl) rfl ?_; refine nx_op ?_; refine opw_yld (Yld.nilCheck rfl) rfl ?_; refine nx_op ?_; refine opw_yld (Yld.fieldAddr rfl) rfl ?_; refine nx_op ?_; refine opw_yld (Yld.load rfl) rfl ?_; refine nx_op ?_; refine opw_yld (Yld.lenSlice rfl) rfl ?_; refine nx_op ?_; refine opw_yld (Yld.fieldAddr rfl) rfl ?_); all_goals (refine nx_op ?_; refine opw_store rfl rfl rfl ?_); all_goals (refine nx_op ?_; refine opw_yld (Yld.fieldAddr rfl) rfl ?_); all_goals (refine nx_op ?_; refine opw_store rfl rfl rfl ?_); all_goals (refine nx_nil ?_; refine kp_code_normal ?_; refine nx_seq ?_; refine nx_seq ?_; refine nx_region ?_; refine nx_op ?_; refine opw_yld (Yld.move rfl) rfl ?_; refine nx_op ?_; refine opw_yld (Yld.nilCheck rfl) rfl ?_; refine nx_op ?_; refine opw_yld (Yld.fieldAddr rfl) rfl ?_; refine nx_op ?_; refine opw_yld (Yld.load rfl) rfl ?_; refine nx_op ?_; refine opw_yld (Yld.lenSlice rfl) rfl ?_; refine nx_op ?_; refine opw_yld (Yld.move rfl) rfl ?_; refine nx_nil ?_; refine kp_code_normal ?_; refine nx_block ?_)) | (all_goals refine nx_skip ?_))
  all_goals (refine kp_code_normal ?_; refine nx_seq ?_; refine nx_region ?_; refine nx_op ?_; refine opw_yld (Yld.loadAgg rfl) rfl ?_)
  all_goals (refine nx_op ?_; refine opw_storeAgg rfl rfl rfl (by simp [Value.oneCell']) ?_)
  all_goals (refine nx_op ?_; refine opw_yld (Yld.assign rfl) rfl ?_; refine nx_nil ?_; refine kp_code_normal ?_; refine nx_ret ?_)
  all_goals (exact resC2 (by first | exact .inl rfl | exact .inr rfl) Tryd.results19 rfl rfl [] inferInstance ⟨rfl, rfl⟩)
theorem sp19 (hT : InT F T) (n : Int) : Sp Tryd.prog 19 [.pointer (some ⟨T.t, 0, none⟩), .int .i64 n] F [] (fun v B => v = infoR n ((fnd T.S n).map (·.f)) ∧ B = []) := by
  refine sp_enter Tryd.func19 rfl Tryd.ntmps19 rfl (fun g => ?_)
  simp only [argFr, List.nil_append, Nat.reduceAdd]
  cases hf : fnd T.S n with
  | none =>
    all_goals (refine nx_seq ?_; refine nx_region ?_)
    all_goals (refine nx_op ?_; refine opw_alc Alc.alloc rfl (fun b4 => ?_))
    all_goals (refine nx_op ?_; refine opw_yld (Yld.assign rfl) rfl ?_; refine nx_nil ?_; refine kp_code_normal ?_; refine nx_seq ?_; refine nx_region ?_; refine nx_op ?_; refine opw_yld (Yld.move rfl) rfl ?_; refine nx_op ?_; refine opw_yld (Yld.move rfl) rfl ?_)
    all_goals (refine nx_op ?_; (refine opw_call rfl (sp67 (hT.mono (by simp +contextual)) n) inferInstance rfl ?_; rintro _ _ ⟨rfl, rfl⟩; simp only [List.nil_append, hf, ptrO]))
    all_goals (refine nx_op ?_; refine opw_yld (Yld.assign rfl) rfl ?_; refine nx_nil ?_; refine kp_code_normal ?_; refine nx_seq ?_; refine nx_seq ?_; refine nx_region ?_; refine nx_op ?_; refine opw_yld (Yld.move rfl) rfl ?_; refine nx_op ?_; refine opw_yld (Yld.eqNil rfl rfl) rfl ?_; refine nx_nil ?_; refine kp_code_normal ?_)
    all_goals (refine nx_cond rfl (fun hc => ?_) (fun hc => ?_))
    all_goals (first | (exact Bool.noConfusion (hc.symm.trans (by first | rfl | assumption) : true = false)) | (exact Bool.noConfusion (hc.symm.trans (by first | rfl | assumption) : false = true)) | (all_goals (refine nx_seq ?_; refine nx_region ?_; refine nx_op ?_; refine opw_yld (Yld.build (cs := [.int .i64 0, .int .i64 0, .int .i64 0, .int .i64 0, .int .i64 0]) rfl rfl) rfl ?_); all_goals (refine nx_op ?_; refine opw_storeAgg rfl rfl rfl (by simp [Value.oneCell']) ?_); all_goals (refine nx_op ?_; refine opw_yld (Yld.assign rfl) rfl ?_; refine nx_nil ?_; refine kp_code_normal ?_; refine nx_ret ?_; refine kp_code_ret ?_); all_goals (exact resC2 (by first | exact .inl rfl | exact .inr rfl) Tryd.results19 rfl rfl [] inferInstance ⟨rfl, rfl⟩)) | (all_goals refine nx_skip ?_))
    all_goals (refine kp_code_normal ?_; refine nx_seq ?_; refine nx_draw (fun i => match i with | 4 => .read | 8 => .read | 12 => .read | 16 => .read | 19 => .alloc | 20 => .hard | _ => .stab) [] [0, 1, 2, 3, 4, 5, 6, 7, 8, 9, 10, 11, 12, 13, 14, 15, 16, 17, 18, 19, 20] rfl (by kernel_rfl) inferInstance ?_)
    all_goals (refine wk_stab rfl rfl (Yld.move rfl) rfl ?_)
    all_goals (refine wk_stab rfl rfl (Yld.move rfl) rfl ?_)
    all_goals (refine wk_stab rfl rfl (Yld.nilCheck rfl) rfl ?_)
    all_goals (refine wk_stab rfl rfl (Yld.fieldAddr rfl) rfl ?_)
    all_goals (refine wk_read rfl rfl (Yld.load rfl) rfl ?_)
    all_goals (refine wk_stab rfl rfl (Yld.move rfl) rfl ?_)
    all_goals (refine wk_stab rfl rfl (Yld.nilCheck rfl) rfl ?_)
    all_goals (refine wk_stab rfl rfl (Yld.fieldAddr rfl) rfl ?_)
    all_goals (refine wk_read rfl rfl (Yld.load rfl) rfl ?_)
    all_goals (refine wk_stab rfl rfl (Yld.move rfl) rfl ?_)
    all_goals (refine wk_stab rfl rfl (Yld.nilCheck rfl) rfl ?_)
    all_goals (refine wk_stab rfl rfl (Yld.fieldAddr rfl) rfl ?_)
    all_goals (refine wk_read rfl rfl (Yld.load rfl) rfl ?_)
    all_goals (refine wk_stab rfl rfl (Yld.move rfl) rfl ?_)
    all_goals (refine wk_stab rfl rfl (Yld.nilCheck rfl) rfl ?_)
    all_goals (refine wk_stab rfl rfl (Yld.fieldAddr rfl) rfl ?_)
    all_goals (refine wk_read rfl rfl (Yld.load rfl) rfl ?_)
    all_goals (refine wk_stab rfl rfl (Yld.lenSlice rfl) rfl ?_)
    all_goals (refine wk_stab rfl rfl (Yld.build rfl rfl) rfl ?_)
    all_goals (refine wk_alloc rfl rfl Alc.alloc rfl (fun b7 => ?_))
    all_goals ((refine wk_hard rfl rfl ?_; refine opw_storeAgg rfl rfl rfl (by simp [Value.oneCell']) ?_; refine nx_keeps inferInstance ?_))
    all_goals (refine wk_nil ?_; refine kp_code_normal ?_; refine nx_seq ?_; refine nx_seq ?_; refine nx_region ?_; refine nx_op ?_; refine opw_yld (Yld.move rfl) rfl ?_; refine nx_op ?_; refine opw_yld (Yld.nilCheck rfl) rfl ?_; refine nx_op ?_; refine opw_yld (Yld.fieldAddr rfl) rfl ?_; refine nx_op ?_; refine opw_yld (Yld.load rfl) rfl ?_; refine nx_op ?_; refine opw_yld (Yld.cmp rfl rfl rfl) rfl ?_; refine nx_nil ?_; refine kp_code_normal ?_)
    all_goals (refine nx_cond rfl (fun hc => ?_) (fun hc => ?_))
    all_goals (first | (exact Bool.noConfusion (hc.symm.trans (by first | rfl | assumption) : true = false)) | (exact Bool.noConfusion (hc.symm.trans (by first | rfl | assumption) : false = true)) | (all_goals (refine nx_seq ?_; refine nx_region ?_; refine nx_op ?_; refine opw_yld (Yld.move rfl) rfl ?_; refine nx_op ?_; refine opw_yld (Yld.nilCheck rfl) rfl ?_; refine nx_op ?_; refine opw_yld (Yld.fieldAddr rfl) rfl ?_; refine nx_op ?_; refine opw_yld (Yld.load rfl) rfl ?_; refine nx_op ?_; refine opw_yld (Yld.lenSlice rfl) rfl ?_; refine nx_op ?_; refine opw_yld (Yld.fieldAddr rfl) rfl ?_); all_goals (refine nx_op ?_; refine opw_store rfl rfl rfl ?_); all_goals (refine nx_op ?_; refine opw_yld (Yld.fieldAddr rfl) rfl ?_); all_goals (refine nx_op ?_; refine opw_store rfl rfl rfl ?_); all_goals (refine nx_nil ?_; refine kp_code_normal ?_; refine nx_seq ?_; refine nx_seq ?_; refine nx_region ?_; refine nx_op ?_; refine opw_yld (Yld.move rfl) rfl ?_; refine nx_op ?_; refine opw_yld (Yld.nilCheck rfl) rfl ?_; refine nx_op ?_; refine opw_yld (Yld.fieldAddr rfl) rfl ?_; refine nx_op ?_; refine opw_yld (Yld.load rfl) rfl ?_; refine nx_op ?_; refine opw_yld (Yld.lenSlice rfl) rfl ?_; refine nx_op ?_; refine opw_yld (Yld.move rfl) rfl ?_; refine nx_nil ?_; refine kp_code_normal ?_; refine nx_block ?_)) | (all_goals refine nx_skip ?_))
    all_goals (refine kp_code_normal ?_; refine nx_seq ?_; refine nx_region ?_; refine nx_op ?_; refine opw_yld (Yld.loadAgg rfl) rfl ?_)
    all_goals (refine nx_op ?_; refine opw_storeAgg rfl rfl rfl (by simp [Value.oneCell']) ?_)
    all_goals (refine nx_op ?_; refine opw_yld (Yld.assign rfl) rfl ?_; refine nx_nil ?_; refine kp_code_normal ?_; refine nx_ret ?_)
    all_goals (exact resC2 (by first | exact .inl rfl | exact .inr rfl) Tryd.results19 rfl rfl [] inferInstance ⟨rfl, rfl⟩)
  | some x =>
  have hN := hT.inN (fnd_mem hf).1
  have i1 := hN.blk
  obtain ⟨da, dcap, hdv⟩ := Own_slice hN.ok.data
  obtain ⟨ea, ecap, hev⟩ := Own_slice hN.ok.ents
  rw [hdv, hev] at i1
  by_cases hk : x.f.kind = 2
  case neg =>
    have hb : (x.f.kind == 2) = false := by simpa using hk
    have hb2 : deadB x.f = false := by simp [deadB, hb]
    all_goals (refine nx_seq ?_; refine nx_region ?_)
    all_goals (refine nx_op ?_; refine opw_alc Alc.alloc rfl (fun b4 => ?_))
    all_goals (refine nx_op ?_; refine opw_yld (Yld.assign rfl) rfl ?_; refine nx_nil ?_; refine kp_code_normal ?_; refine nx_seq ?_; refine nx_region ?_; refine nx_op ?_; refine opw_yld (Yld.move rfl) rfl ?_; refine nx_op ?_; refine opw_yld (Yld.move rfl) rfl ?_)
    all_goals (refine nx_op ?_; (refine opw_call rfl (sp67 (hT.mono (by simp +contextual)) n) inferInstance rfl ?_; rintro _ _ ⟨rfl, rfl⟩; simp only [List.nil_append, hf, ptrO]))
    all_goals (refine nx_op ?_; refine opw_yld (Yld.assign rfl) rfl ?_; refine nx_nil ?_; refine kp_code_normal ?_; refine nx_seq ?_; refine nx_seq ?_; refine nx_region ?_; refine nx_op ?_; refine opw_yld (Yld.move rfl) rfl ?_; refine nx_op ?_; refine opw_yld (Yld.eqNil rfl rfl) rfl ?_; refine nx_nil ?_; refine kp_code_normal ?_)
    all_goals (refine nx_cond rfl (fun hc => ?_) (fun hc => ?_))
    all_goals (first | (exact Bool.noConfusion (hc.symm.trans (by first | rfl | assumption) : true = false)) | (exact Bool.noConfusion (hc.symm.trans (by first | rfl | assumption) : false = true)) | (all_goals (refine nx_seq ?_; refine nx_region ?_; refine nx_op ?_; refine opw_yld (Yld.build rfl rfl) rfl ?_); all_goals (refine nx_op ?_; refine opw_storeAgg rfl rfl rfl (by simp [Value.oneCell']) ?_); all_goals (refine nx_op ?_; refine opw_yld (Yld.assign rfl) rfl ?_; refine nx_nil ?_; refine kp_code_normal ?_; refine nx_ret ?_; refine kp_code_ret ?_); all_goals (exact resC2 (by first | exact .inl rfl | exact .inr rfl) Tryd.results19 rfl rfl [] inferInstance ⟨by simp [infoR, infoV, infoL, infoS, hk], rfl⟩)) | (all_goals refine nx_skip ?_))
    all_goals (refine kp_code_normal ?_; refine nx_seq ?_; refine nx_draw (fun i => match i with | 4 => .read | 8 => .read | 12 => .read | 16 => .read | 19 => .alloc | 20 => .hard | _ => .stab) [] [0, 1, 2, 3, 4, 5, 6, 7, 8, 9, 10, 11, 12, 13, 14, 15, 16, 17, 18, 19, 20] rfl (by kernel_rfl) inferInstance ?_)
    all_goals (refine wk_stab rfl rfl (Yld.move rfl) rfl ?_)
    all_goals (refine wk_stab rfl rfl (Yld.move rfl) rfl ?_)
    all_goals (refine wk_stab rfl rfl (Yld.nilCheck rfl) rfl ?_)
    all_goals (refine wk_stab rfl rfl (Yld.fieldAddr rfl) rfl ?_)
    all_goals (refine wk_read rfl rfl (Yld.load rfl) rfl ?_)
    all_goals (refine wk_stab rfl rfl (Yld.move rfl) rfl ?_)
    all_goals (refine wk_stab rfl rfl (Yld.nilCheck rfl) rfl ?_)
    all_goals (refine wk_stab rfl rfl (Yld.fieldAddr rfl) rfl ?_)
    all_goals (refine wk_read rfl rfl (Yld.load rfl) rfl ?_)
    all_goals (refine wk_stab rfl rfl (Yld.move rfl) rfl ?_)
    all_goals (refine wk_stab rfl rfl (Yld.nilCheck rfl) rfl ?_)
    all_goals (refine wk_stab rfl rfl (Yld.fieldAddr rfl) rfl ?_)
    all_goals (refine wk_read rfl rfl (Yld.load rfl) rfl ?_)
    all_goals (refine wk_stab rfl rfl (Yld.move rfl) rfl ?_)
    all_goals (refine wk_stab rfl rfl (Yld.nilCheck rfl) rfl ?_)
    all_goals (refine wk_stab rfl rfl (Yld.fieldAddr rfl) rfl ?_)
    all_goals (refine wk_read rfl rfl (Yld.load rfl) rfl ?_)
    all_goals (refine wk_stab rfl rfl (Yld.lenSlice rfl) rfl ?_)
    all_goals (refine wk_stab rfl rfl (Yld.build (cs := [.int .i64 n, .int .i64 x.f.kind, .int .i64 x.f.mode, .int .i64 x.f.links, .int .i64 x.f.data.length]) rfl rfl) rfl ?_)
    all_goals (refine wk_alloc rfl rfl Alc.alloc rfl (fun b7 => ?_))
    all_goals ((refine wk_hard rfl rfl ?_; refine opw_storeAgg rfl rfl rfl (by simp [Value.oneCell']) ?_; refine nx_keeps inferInstance ?_))
    all_goals (refine wk_nil ?_; refine kp_code_normal ?_; refine nx_seq ?_; refine nx_seq ?_; refine nx_region ?_; refine nx_op ?_; refine opw_yld (Yld.move rfl) rfl ?_; refine nx_op ?_; refine opw_yld (Yld.nilCheck rfl) rfl ?_; refine nx_op ?_; refine opw_yld (Yld.fieldAddr rfl) rfl ?_; refine nx_op ?_; refine opw_yld (Yld.load rfl) rfl ?_; refine nx_op ?_; refine opw_yld (Yld.cmp rfl rfl rfl) rfl ?_; refine nx_nil ?_; refine kp_code_normal ?_)
    all_goals (refine nx_cond rfl (fun hc => ?_) (fun hc => ?_))
    all_goals (first | (exact Bool.noConfusion (hc.symm.trans (by first | rfl | assumption) : true = false)) | (exact Bool.noConfusion (hc.symm.trans (by first | rfl | assumption) : false = true)) | (all_goals (refine nx_seq ?_; refine nx_region ?_; refine nx_op ?_; refine opw_yld (Yld.move rfl) rfl ?_; refine nx_op ?_; refine opw_yld (Yld.nilCheck rfl) rfl ?_; refine nx_op ?_; refine opw_yld (Yld.fieldAddr rfl) rfl ?_; refine nx_op ?_; refine opw_yld (Yld.load rfl) rfl ?_; refine nx_op ?_; refine opw_yld (Yld.lenSlice rfl) rfl ?_; refine nx_op ?_; refine opw_yld (Yld.fieldAddr rfl) rfl ?_); all_goals (refine nx_op ?_; refine opw_store rfl rfl rfl ?_); all_goals (refine nx_op ?_; refine opw_yld (Yld.fieldAddr rfl) rfl ?_); all_goals (refine nx_op ?_; refine opw_store rfl rfl rfl ?_); all_goals (refine nx_nil ?_; refine kp_code_normal ?_; refine nx_seq ?_; refine nx_seq ?_; refine nx_region ?_; refine nx_op ?_; refine opw_yld (Yld.move rfl) rfl ?_; refine nx_op ?_; refine opw_yld (Yld.nilCheck rfl) rfl ?_; refine nx_op ?_; refine opw_yld (Yld.fieldAddr rfl) rfl ?_; refine nx_op ?_; refine opw_yld (Yld.load rfl) rfl ?_; refine nx_op ?_; refine opw_yld (Yld.lenSlice rfl) rfl ?_; refine nx_op ?_; refine opw_yld (Yld.move rfl) rfl ?_; refine nx_nil ?_; refine kp_code_normal ?_; refine nx_block ?_)) | (all_goals refine nx_skip ?_))
    all_goals (refine kp_code_normal ?_; refine nx_seq ?_; refine nx_region ?_; refine nx_op ?_; refine opw_yld (Yld.loadAgg rfl) rfl ?_)
    all_goals (refine nx_op ?_; refine opw_storeAgg rfl rfl rfl (by simp [Value.oneCell']) ?_)
    all_goals (refine nx_op ?_; refine opw_yld (Yld.assign rfl) rfl ?_; refine nx_nil ?_; refine kp_code_normal ?_; refine nx_ret ?_)
    all_goals (exact resC2 (by first | exact .inl rfl | exact .inr rfl) Tryd.results19 rfl rfl [] inferInstance ⟨by simp [infoR, infoV, infoL, infoS, hk], rfl⟩)
  have hb : (x.f.kind == 2) = true := by simpa using hk
  have hsm := hN.ok.small.1
  all_goals (refine nx_seq ?_; refine nx_region ?_)
  all_goals (refine nx_op ?_; refine opw_alc Alc.alloc rfl (fun b4 => ?_))
  all_goals (refine nx_op ?_; refine opw_yld (Yld.assign rfl) rfl ?_; refine nx_nil ?_; refine kp_code_normal ?_; refine nx_seq ?_; refine nx_region ?_; refine nx_op ?_; refine opw_yld (Yld.move rfl) rfl ?_; refine nx_op ?_; refine opw_yld (Yld.move rfl) rfl ?_)
  all_goals (refine nx_op ?_; (refine opw_call rfl (sp67 (hT.mono (by simp +contextual)) n) inferInstance rfl ?_; rintro _ _ ⟨rfl, rfl⟩; simp only [List.nil_append, hf, ptrO]))
  all_goals (refine nx_op ?_; refine opw_yld (Yld.assign rfl) rfl ?_; refine nx_nil ?_; refine kp_code_normal ?_; refine nx_seq ?_; refine nx_seq ?_; refine nx_region ?_; refine nx_op ?_; refine opw_yld (Yld.move rfl) rfl ?_; refine nx_op ?_; refine opw_yld (Yld.eqNil rfl rfl) rfl ?_; refine nx_nil ?_; refine kp_code_normal ?_)
  all_goals (refine nx_cond rfl (fun hc => ?_) (fun hc => ?_))
  all_goals (first | (exact Bool.noConfusion (hc.symm.trans (by first | rfl | assumption) : true = false)) | (exact Bool.noConfusion (hc.symm.trans (by first | rfl | assumption) : false = true)) | (all_goals (refine nx_seq ?_; refine nx_region ?_; refine nx_op ?_; refine opw_yld (Yld.build rfl rfl) rfl ?_); all_goals (refine nx_op ?_; refine opw_storeAgg rfl rfl rfl (by simp [Value.oneCell']) ?_); all_goals (refine nx_op ?_; refine opw_yld (Yld.assign rfl) rfl ?_; refine nx_nil ?_; refine kp_code_normal ?_; refine nx_ret ?_; refine kp_code_ret ?_)) | (all_goals refine nx_skip ?_))
  all_goals (refine kp_code_normal ?_; refine nx_seq ?_; refine nx_draw (fun i => match i with | 4 => .read | 8 => .read | 12 => .read | 16 => .read | 19 => .alloc | 20 => .hard | _ => .stab) [] [0, 1, 2, 3, 4, 5, 6, 7, 8, 9, 10, 11, 12, 13, 14, 15, 16, 17, 18, 19, 20] rfl (by kernel_rfl) inferInstance ?_)
  all_goals (refine wk_stab rfl rfl (Yld.move rfl) rfl ?_)
  all_goals (refine wk_stab rfl rfl (Yld.move rfl) rfl ?_)
  all_goals (refine wk_stab rfl rfl (Yld.nilCheck rfl) rfl ?_)
  all_goals (refine wk_stab rfl rfl (Yld.fieldAddr rfl) rfl ?_)
  all_goals (refine wk_read rfl rfl (Yld.load rfl) rfl ?_)
  all_goals (refine wk_stab rfl rfl (Yld.move rfl) rfl ?_)
  all_goals (refine wk_stab rfl rfl (Yld.nilCheck rfl) rfl ?_)
  all_goals (refine wk_stab rfl rfl (Yld.fieldAddr rfl) rfl ?_)
  all_goals (refine wk_read rfl rfl (Yld.load rfl) rfl ?_)
  all_goals (refine wk_stab rfl rfl (Yld.move rfl) rfl ?_)
  all_goals (refine wk_stab rfl rfl (Yld.nilCheck rfl) rfl ?_)
  all_goals (refine wk_stab rfl rfl (Yld.fieldAddr rfl) rfl ?_)
  all_goals (refine wk_read rfl rfl (Yld.load rfl) rfl ?_)
  all_goals (refine wk_stab rfl rfl (Yld.move rfl) rfl ?_)
  all_goals (refine wk_stab rfl rfl (Yld.nilCheck rfl) rfl ?_)
  all_goals (refine wk_stab rfl rfl (Yld.fieldAddr rfl) rfl ?_)
  all_goals (refine wk_read rfl rfl (Yld.load rfl) rfl ?_)
  all_goals (refine wk_stab rfl rfl (Yld.lenSlice rfl) rfl ?_)
  all_goals (refine wk_stab rfl rfl (Yld.build (cs := [.int .i64 n, .int .i64 x.f.kind, .int .i64 x.f.mode, .int .i64 x.f.links, .int .i64 x.f.data.length]) rfl rfl) rfl ?_)
  all_goals (refine wk_alloc rfl rfl Alc.alloc rfl (fun b7 => ?_))
  all_goals ((refine wk_hard rfl rfl ?_; refine opw_storeAgg rfl rfl rfl (by simp [Value.oneCell']) ?_; refine nx_keeps inferInstance ?_))
  all_goals (refine wk_nil ?_; refine kp_code_normal ?_; refine nx_seq ?_; refine nx_seq ?_; refine nx_region ?_; refine nx_op ?_; refine opw_yld (Yld.move rfl) rfl ?_; refine nx_op ?_; refine opw_yld (Yld.nilCheck rfl) rfl ?_; refine nx_op ?_; refine opw_yld (Yld.fieldAddr rfl) rfl ?_; refine nx_op ?_; refine opw_yld (Yld.load rfl) rfl ?_; refine nx_op ?_; refine opw_yld (Yld.cmp rfl rfl rfl) rfl ?_; refine nx_nil ?_; refine kp_code_normal ?_)
  all_goals (refine nx_cond rfl (fun hc => ?_) (fun hc => ?_))
  all_goals (first | (exact Bool.noConfusion (hc.symm.trans (by first | rfl | assumption) : true = false)) | (exact Bool.noConfusion (hc.symm.trans (by first | rfl | assumption) : false = true)) | (all_goals (refine nx_seq ?_; refine nx_region ?_; refine nx_op ?_; refine opw_yld (Yld.move rfl) rfl ?_; refine nx_op ?_; refine opw_yld (Yld.nilCheck rfl) rfl ?_; refine nx_op ?_; refine opw_yld (Yld.fieldAddr rfl) rfl ?_; refine nx_op ?_; refine opw_yld (Yld.load rfl) rfl ?_; refine nx_op ?_; refine opw_yld (Yld.lenSlice rfl) rfl ?_; refine nx_op ?_; refine opw_yld (Yld.fieldAddr rfl) rfl ?_); all_goals (refine nx_op ?_; refine opw_store rfl rfl rfl ?_); all_goals (refine nx_op ?_; refine opw_yld (Yld.fieldAddr rfl) rfl ?_); all_goals (refine nx_op ?_; refine opw_store rfl rfl rfl ?_); all_goals (refine nx_nil ?_; refine kp_code_normal ?_; refine nx_seq ?_; refine nx_seq ?_; refine nx_region ?_; refine nx_op ?_; refine opw_yld (Yld.move rfl) rfl ?_; refine nx_op ?_; refine opw_yld (Yld.nilCheck rfl) rfl ?_; refine nx_op ?_; refine opw_yld (Yld.fieldAddr rfl) rfl ?_; refine nx_op ?_; refine opw_yld (Yld.load rfl) rfl ?_; refine nx_op ?_; refine opw_yld (Yld.lenSlice rfl) rfl ?_; refine nx_op ?_; refine opw_yld (Yld.move rfl) rfl ?_; refine nx_nil ?_; refine kp_code_normal ?_; refine nx_block ?_)) | (all_goals refine nx_skip ?_))
  refine nx_loop (fun fr L m => ∃ i : Nat, i ≤ x.f.ents.length ∧ m = x.f.ents.length - i ∧
      fr = [(4, .pointer (some ⟨b4, 0, none⟩)), (6, .pointer (some ⟨x.b, 0, none⟩)), (7, .pointer (some ⟨b7, 0, none⟩)), (50, .slice ea x.f.ents.length ecap), (51, .int .i64 x.f.ents.length), (52, .int .i64 i)] ∧
      L = [[(b7, .cells [.int .i64 n, .int .i64 x.f.kind, .int .i64 x.f.mode, .int .i64 (2 + (dirs (x.f.ents.take i) : Int)), .int .i64 x.f.ents.length].toArray 54 (0, 0))], [(b4, .cells [.int .i64 0, .int .i64 0, .int .i64 0, .int .i64 0, .int .i64 0].toArray 54 (0, 0))], F])
    (L' := [[(b7, .cells [.int .i64 n, .int .i64 x.f.kind, .int .i64 x.f.mode, .int .i64 2, .int .i64 x.f.ents.length].toArray 54 (0, 0))], [(b4, .cells [.int .i64 0, .int .i64 0, .int .i64 0, .int .i64 0, .int .i64 0].toArray 54 (0, 0))], F]) ⟨0, by omega, rfl, rfl, by simp [dirs]⟩ (by repeat' (first | exact .nil | refine .cons rfl ?_)) inferInstance ?_
  rintro fr L m ⟨i, hi, rfl, rfl, rfl⟩
  by_cases hlt : i < x.f.ents.length
  case neg =>
    have hb3 : decide ((i : Int) < (x.f.ents.length : Int)) = false := by simp; omega
    have htk : x.f.ents.take i = x.f.ents := List.take_of_length_le (by omega)
    rw [htk]
    by_cases hp : x.f.parent = 0
    · have hd : deadB x.f = true := by simp [deadB, hk, hp]
      all_goals (refine nx_seq ?_; refine nx_region ?_; refine nx_op ?_; refine opw_yld (Yld.cmp rfl rfl rfl) rfl ?_; refine nx_nil ?_; refine kp_code_normal ?_; refine nx_seq ?_)
      all_goals (refine nx_cond rfl (fun hc => ?_) (fun hc => ?_))
      all_goals (first | (exact Bool.noConfusion (hc.symm.trans (by first | rfl | assumption) : true = false)) | (exact Bool.noConfusion (hc.symm.trans (by first | rfl | assumption) : false = true)) | (all_goals refine nx_skip ?_) | (all_goals (refine nx_exit ?_; refine kp_code_exit ?_; refine kp_loop_exit ?_; refine kp_blk_exit rfl ?_; refine kp_code_normal ?_; refine nx_seq ?_; refine nx_region ?_; refine nx_op ?_; refine opw_yld (Yld.move rfl) rfl ?_); all_goals (refine nx_op ?_; (refine opw_call rfl (sp68 ⟨fun y hy => by simp [hN.sub y hy], hN.ok⟩) inferInstance rfl ?_; rintro _ _ ⟨rfl, rfl⟩; simp only [List.nil_append, hd])); all_goals (refine nx_nil ?_; refine kp_code_normal ?_); all_goals (refine nx_cond rfl (fun hc => ?_) (fun hc => ?_)); all_goals (first | (exact Bool.noConfusion (hc.symm.trans (by first | rfl | assumption) : true = false)) | (exact Bool.noConfusion (hc.symm.trans (by first | rfl | assumption) : false = true)) | (all_goals (refine nx_region ?_; refine nx_op ?_; refine opw_yld (Yld.fieldAddr rfl) rfl ?_); all_goals (refine nx_op ?_; refine opw_store rfl rfl rfl ?_); all_goals refine nx_nil ?_) | (all_goals refine nx_skip ?_)); all_goals (refine kp_code_normal ?_; refine nx_seq ?_; refine nx_region ?_; refine nx_op ?_; refine opw_yld (Yld.loadAgg rfl) rfl ?_); all_goals (refine nx_op ?_; refine opw_storeAgg rfl rfl rfl (by simp [Value.oneCell']) ?_); all_goals (refine nx_op ?_; refine opw_yld (Yld.assign rfl) rfl ?_; refine nx_nil ?_; refine kp_code_normal ?_; refine nx_ret ?_); all_goals (exact resC2 (by first | exact .inl rfl | exact .inr rfl) Tryd.results19 rfl rfl [] inferInstance ⟨by simp [infoR, infoV, infoL, infoS, hk, hp], rfl⟩)))
      all_goals (refine kp_code_normal ?_; refine nx_seq ?_; refine nx_block ?_; refine nx_seq ?_; refine nx_region ?_; refine nx_op ?_; refine opw_yld (Yld.indexAddr rfl rfl (by omega)) rfl ?_; refine nx_op ?_; refine opw_yld (Yld.loadAgg rfl) rfl ?_)
      all_goals (refine nx_op ?_; refine opw_alc Alc.alloc rfl (fun b9 => ?_))
      all_goals (refine nx_op ?_; refine opw_storeAgg rfl rfl rfl (by simp [Value.oneCell']) ?_)
      all_goals (refine nx_nil ?_; refine kp_code_normal ?_; refine nx_seq ?_; refine nx_region ?_; refine nx_op ?_; refine opw_yld (Yld.fieldAddr rfl) rfl ?_; refine nx_op ?_; refine opw_yld (Yld.load rfl) rfl ?_; refine nx_op ?_; refine opw_yld (Yld.cmp rfl rfl rfl) rfl ?_; refine nx_nil ?_; refine kp_code_normal ?_)
      all_goals (refine nx_cond rfl (fun hc => ?_) (fun hc => ?_))
      all_goals (first | (exact Bool.noConfusion (hc.symm.trans (by first | rfl | assumption) : true = false)) | (exact Bool.noConfusion (hc.symm.trans (by first | rfl | assumption) : false = true)) | (all_goals (refine nx_region ?_; refine nx_op ?_; refine opw_yld (Yld.fieldAddr rfl) rfl ?_; refine nx_op ?_; refine opw_yld (Yld.load rfl) rfl ?_); all_goals (refine nx_op ?_; (first | refine opw_yld (Yld.addI rfl rfl (by omega) (by omega)) rfl ?_ | refine opw_yld (Yld.add rfl rfl) rfl ?_)); all_goals (refine nx_op ?_; refine opw_yld (Yld.fieldAddr rfl) rfl ?_); all_goals (refine nx_op ?_; refine opw_store rfl rfl rfl ?_); all_goals refine nx_nil ?_) | (all_goals refine nx_skip ?_))
      all_goals (refine kp_blk_normal ?_; refine kp_code_normal ?_; refine nx_region ?_)
      all_goals (refine nx_op ?_; (first | refine opw_yld (Yld.addI rfl rfl (by omega) (by omega)) rfl ?_ | refine opw_yld (Yld.add rfl rfl) rfl ?_))
      all_goals (refine nx_op ?_; refine opw_yld (Yld.move rfl) rfl ?_; refine nx_nil ?_)
    · have hd : deadB x.f = false := by simp [deadB, hp]
      all_goals (refine nx_seq ?_; refine nx_region ?_; refine nx_op ?_; refine opw_yld (Yld.cmp rfl rfl rfl) rfl ?_; refine nx_nil ?_; refine kp_code_normal ?_; refine nx_seq ?_)
      all_goals (refine nx_cond rfl (fun hc => ?_) (fun hc => ?_))
      all_goals (first | (exact Bool.noConfusion (hc.symm.trans (by first | rfl | assumption) : true = false)) | (exact Bool.noConfusion (hc.symm.trans (by first | rfl | assumption) : false = true)) | (all_goals refine nx_skip ?_) | (all_goals (refine nx_exit ?_; refine kp_code_exit ?_; refine kp_loop_exit ?_; refine kp_blk_exit rfl ?_; refine kp_code_normal ?_; refine nx_seq ?_; refine nx_region ?_; refine nx_op ?_; refine opw_yld (Yld.move rfl) rfl ?_); all_goals (refine nx_op ?_; (refine opw_call rfl (sp68 ⟨fun y hy => by simp [hN.sub y hy], hN.ok⟩) inferInstance rfl ?_; rintro _ _ ⟨rfl, rfl⟩; simp only [List.nil_append, hd])); all_goals (refine nx_nil ?_; refine kp_code_normal ?_); all_goals (refine nx_cond rfl (fun hc => ?_) (fun hc => ?_)); all_goals (first | (exact Bool.noConfusion (hc.symm.trans (by first | rfl | assumption) : true = false)) | (exact Bool.noConfusion (hc.symm.trans (by first | rfl | assumption) : false = true)) | (all_goals (refine nx_region ?_; refine nx_op ?_; refine opw_yld (Yld.fieldAddr rfl) rfl ?_); all_goals (refine nx_op ?_; refine opw_store rfl rfl rfl ?_); all_goals refine nx_nil ?_) | (all_goals refine nx_skip ?_)); all_goals (refine kp_code_normal ?_; refine nx_seq ?_; refine nx_region ?_; refine nx_op ?_; refine opw_yld (Yld.loadAgg rfl) rfl ?_); all_goals (refine nx_op ?_; refine opw_storeAgg rfl rfl rfl (by simp [Value.oneCell']) ?_); all_goals (refine nx_op ?_; refine opw_yld (Yld.assign rfl) rfl ?_; refine nx_nil ?_; refine kp_code_normal ?_; refine nx_ret ?_); all_goals (exact resC2 (by first | exact .inl rfl | exact .inr rfl) Tryd.results19 rfl rfl [] inferInstance ⟨by simp [infoR, infoV, infoL, infoS, hk, hp], rfl⟩)))
      all_goals (refine kp_code_normal ?_; refine nx_seq ?_; refine nx_block ?_; refine nx_seq ?_; refine nx_region ?_; refine nx_op ?_; refine opw_yld (Yld.indexAddr rfl rfl (by omega)) rfl ?_; refine nx_op ?_; refine opw_yld (Yld.loadAgg rfl) rfl ?_)
      all_goals (refine nx_op ?_; refine opw_alc Alc.alloc rfl (fun b9 => ?_))
      all_goals (refine nx_op ?_; refine opw_storeAgg rfl rfl rfl (by simp [Value.oneCell']) ?_)
      all_goals (refine nx_nil ?_; refine kp_code_normal ?_; refine nx_seq ?_; refine nx_region ?_; refine nx_op ?_; refine opw_yld (Yld.fieldAddr rfl) rfl ?_; refine nx_op ?_; refine opw_yld (Yld.load rfl) rfl ?_; refine nx_op ?_; refine opw_yld (Yld.cmp rfl rfl rfl) rfl ?_; refine nx_nil ?_; refine kp_code_normal ?_)
      all_goals (refine nx_cond rfl (fun hc => ?_) (fun hc => ?_))
      all_goals (first | (exact Bool.noConfusion (hc.symm.trans (by first | rfl | assumption) : true = false)) | (exact Bool.noConfusion (hc.symm.trans (by first | rfl | assumption) : false = true)) | (all_goals (refine nx_region ?_; refine nx_op ?_; refine opw_yld (Yld.fieldAddr rfl) rfl ?_; refine nx_op ?_; refine opw_yld (Yld.load rfl) rfl ?_); all_goals (refine nx_op ?_; (first | refine opw_yld (Yld.addI rfl rfl (by omega) (by omega)) rfl ?_ | refine opw_yld (Yld.add rfl rfl) rfl ?_)); all_goals (refine nx_op ?_; refine opw_yld (Yld.fieldAddr rfl) rfl ?_); all_goals (refine nx_op ?_; refine opw_store rfl rfl rfl ?_); all_goals refine nx_nil ?_) | (all_goals refine nx_skip ?_))
      all_goals (refine kp_blk_normal ?_; refine kp_code_normal ?_; refine nx_region ?_)
      all_goals (refine nx_op ?_; (first | refine opw_yld (Yld.addI rfl rfl (by omega) (by omega)) rfl ?_ | refine opw_yld (Yld.add rfl rfl) rfl ?_))
      all_goals (refine nx_op ?_; refine opw_yld (Yld.move rfl) rfl ?_; refine nx_nil ?_)
  have hb3 : decide ((i : Int) < (x.f.ents.length : Int)) = true := by simp; omega
  obtain ⟨b, cap, tl, hev2, hec, hcap⟩ := Own_some hN.ok.ents (by omega)
  rw [hev] at hev2
  cases hev2
  have i2 : InC b (.cells (entsV x.f.ents ++ tl).toArray 52 (0, 0)) F := ⟨hN.sub _ (by simp [Nd.chunk, hec])⟩
  have htk : x.f.ents.take (i + 1) = x.f.ents.take i ++ [x.f.ents[i]] := by simp
  have hsub : SubL (entsV x.f.ents ++ tl) (i * 3) 3 [.string x.f.ents[i].name, .int .i64 x.f.ents[i].node, .int .i64 x.f.ents[i].kind] := ⟨by
    refine ⟨?_, rfl⟩
    have h3 := entsV_drop x.f.ents i
    have h4 := entsV_length x.f.ents
    rw [List.drop_append_of_le_length (by omega), h3, List.drop_eq_getElem_cons hlt, entsV_cons]
    simp [entV]⟩
  have hcnt : dirs (x.f.ents.take i) ≤ i := by
    have h5 : dirs (x.f.ents.take i) ≤ (x.f.ents.take i).length := List.countP_le_length
    simp at h5; omega
  cases hek : (x.f.ents[i].kind == 2) with
  | true =>
    have hd : dirs (x.f.ents.take (i + 1)) = dirs (x.f.ents.take i) + 1 := by unfold dirs; rw [htk, List.countP_append, List.countP_singleton, hek]; rfl
    all_goals (refine nx_seq ?_; refine nx_region ?_; refine nx_op ?_; refine opw_yld (Yld.cmp rfl rfl rfl) rfl ?_; refine nx_nil ?_; refine kp_code_normal ?_; refine nx_seq ?_)
    all_goals (refine nx_cond rfl (fun hc => ?_) (fun hc => ?_))
    all_goals (first | (exact Bool.noConfusion (hc.symm.trans (by first | rfl | assumption) : true = false)) | (exact Bool.noConfusion (hc.symm.trans (by first | rfl | assumption) : false = true)) | (all_goals refine nx_skip ?_) | (all_goals (refine nx_exit ?_; refine kp_code_exit ?_; refine kp_loop_exit ?_; refine kp_blk_exit rfl ?_; refine kp_code_normal ?_; refine nx_seq ?_; refine nx_region ?_; refine nx_op ?_; refine opw_yld (Yld.move rfl) rfl ?_); all_goals (refine nx_op ?_; (fail)); all_goals (refine nx_nil ?_; refine kp_code_normal ?_); all_goals (refine nx_cond rfl (fun hc => ?_) (fun hc => ?_)); all_goals (first | (exact Bool.noConfusion (hc.symm.trans (by first | rfl | assumption) : true = false)) | (exact Bool.noConfusion (hc.symm.trans (by first | rfl | assumption) : false = true)) | (all_goals (refine nx_region ?_; refine nx_op ?_; refine opw_yld (Yld.fieldAddr rfl) rfl ?_); all_goals (refine nx_op ?_; refine opw_store rfl rfl rfl ?_); all_goals refine nx_nil ?_) | (all_goals refine nx_skip ?_)); all_goals (refine kp_code_normal ?_; refine nx_seq ?_; refine nx_region ?_; refine nx_op ?_; refine opw_yld (Yld.loadAgg rfl) rfl ?_); all_goals (refine nx_op ?_; refine opw_storeAgg rfl rfl rfl (by simp [Value.oneCell']) ?_); all_goals (refine nx_op ?_; refine opw_yld (Yld.assign rfl) rfl ?_; refine nx_nil ?_; refine kp_code_normal ?_; refine nx_ret ?_); all_goals (fail)))
    all_goals (refine kp_code_normal ?_; refine nx_seq ?_; refine nx_block ?_; refine nx_seq ?_; refine nx_region ?_; refine nx_op ?_; refine opw_yld (Yld.indexAddr rfl rfl (by omega)) rfl ?_; refine nx_op ?_; refine opw_yld (Yld.loadAgg rfl) rfl ?_)
    all_goals (refine nx_op ?_; refine opw_alc Alc.alloc rfl (fun b9 => ?_))
    all_goals (refine nx_op ?_; refine opw_storeAgg rfl rfl rfl (by simp [Value.oneCell']) ?_)
    all_goals (refine nx_nil ?_; refine kp_code_normal ?_; refine nx_seq ?_; refine nx_region ?_; refine nx_op ?_; refine opw_yld (Yld.fieldAddr rfl) rfl ?_; refine nx_op ?_; refine opw_yld (Yld.load rfl) rfl ?_; refine nx_op ?_; refine opw_yld (Yld.cmp rfl rfl rfl) rfl ?_; refine nx_nil ?_; refine kp_code_normal ?_)
    all_goals (refine nx_cond rfl (fun hc => ?_) (fun hc => ?_))
    all_goals (first | (exact Bool.noConfusion (hc.symm.trans (by first | rfl | assumption) : true = false)) | (exact Bool.noConfusion (hc.symm.trans (by first | rfl | assumption) : false = true)) | (all_goals (refine nx_region ?_; refine nx_op ?_; refine opw_yld (Yld.fieldAddr rfl) rfl ?_; refine nx_op ?_; refine opw_yld (Yld.load rfl) rfl ?_; refine nx_op ?_; refine opw_yld (Yld.addI rfl rfl (by omega) (by omega)) rfl ?_; refine nx_op ?_; refine opw_yld (Yld.fieldAddr rfl) rfl ?_); all_goals (refine nx_op ?_; refine opw_store rfl rfl rfl ?_); all_goals refine nx_nil ?_) | (all_goals refine nx_skip ?_))
    all_goals (refine kp_blk_normal ?_; refine kp_code_normal ?_; refine nx_region ?_; refine nx_op ?_; refine opw_yld (Yld.addI rfl rfl (by omega) (by omega)) rfl ?_; refine nx_op ?_; refine opw_yld (Yld.move rfl) rfl ?_; refine nx_nil ?_)
    refine nx_round (m' := x.f.ents.length - (i + 1)) (L' := [[(b7, .cells [.int .i64 n, .int .i64 x.f.kind, .int .i64 x.f.mode, .int .i64 (2 + (dirs (x.f.ents.take i) : Int) + 1), .int .i64 x.f.ents.length].toArray 54 (0, 0))], [(b4, .cells [.int .i64 0, .int .i64 0, .int .i64 0, .int .i64 0, .int .i64 0].toArray 54 (0, 0))], F]) ⟨i + 1, by omega, rfl, rfl, by rw [hd]; simp [Int.add_assoc]⟩ (by omega) (by repeat' (first | exact .nil | refine .cons rfl ?_)) inferInstance
  | false =>
    have hd : dirs (x.f.ents.take (i + 1)) = dirs (x.f.ents.take i) := by unfold dirs; rw [htk, List.countP_append, List.countP_singleton, hek]; rfl
    all_goals (refine nx_seq ?_; refine nx_region ?_; refine nx_op ?_; refine opw_yld (Yld.cmp rfl rfl rfl) rfl ?_; refine nx_nil ?_; refine kp_code_normal ?_; refine nx_seq ?_)
    all_goals (refine nx_cond rfl (fun hc => ?_) (fun hc => ?_))
    all_goals (first | (exact Bool.noConfusion (hc.symm.trans (by first | rfl | assumption) : true = false)) | (exact Bool.noConfusion (hc.symm.trans (by first | rfl | assumption) : false = true)) | (all_goals refine nx_skip ?_) | (all_goals (refine nx_exit ?_; refine kp_code_exit ?_; refine kp_loop_exit ?_; refine kp_blk_exit rfl ?_; refine kp_code_normal ?_; refine nx_seq ?_; refine nx_region ?_; refine nx_op ?_; refine opw_yld (Yld.move rfl) rfl ?_); all_goals (refine nx_op ?_; (fail)); all_goals (refine nx_nil ?_; refine kp_code_normal ?_); all_goals (refine nx_cond rfl (fun hc => ?_) (fun hc => ?_)); all_goals (first | (exact Bool.noConfusion (hc.symm.trans (by first | rfl | assumption) : true = false)) | (exact Bool.noConfusion (hc.symm.trans (by first | rfl | assumption) : false = true)) | (all_goals (refine nx_region ?_; refine nx_op ?_; refine opw_yld (Yld.fieldAddr rfl) rfl ?_); all_goals (refine nx_op ?_; refine opw_store rfl rfl rfl ?_); all_goals refine nx_nil ?_) | (all_goals refine nx_skip ?_)); all_goals (refine kp_code_normal ?_; refine nx_seq ?_; refine nx_region ?_; refine nx_op ?_; refine opw_yld (Yld.loadAgg rfl) rfl ?_); all_goals (refine nx_op ?_; refine opw_storeAgg rfl rfl rfl (by simp [Value.oneCell']) ?_); all_goals (refine nx_op ?_; refine opw_yld (Yld.assign rfl) rfl ?_; refine nx_nil ?_; refine kp_code_normal ?_; refine nx_ret ?_); all_goals (fail)))
    all_goals (refine kp_code_normal ?_; refine nx_seq ?_; refine nx_block ?_; refine nx_seq ?_; refine nx_region ?_; refine nx_op ?_; refine opw_yld (Yld.indexAddr rfl rfl (by omega)) rfl ?_; refine nx_op ?_; refine opw_yld (Yld.loadAgg rfl) rfl ?_)
    all_goals (refine nx_op ?_; refine opw_alc Alc.alloc rfl (fun b9 => ?_))
    all_goals (refine nx_op ?_; refine opw_storeAgg rfl rfl rfl (by simp [Value.oneCell']) ?_)
    all_goals (refine nx_nil ?_; refine kp_code_normal ?_; refine nx_seq ?_; refine nx_region ?_; refine nx_op ?_; refine opw_yld (Yld.fieldAddr rfl) rfl ?_; refine nx_op ?_; refine opw_yld (Yld.load rfl) rfl ?_; refine nx_op ?_; refine opw_yld (Yld.cmp rfl rfl rfl) rfl ?_; refine nx_nil ?_; refine kp_code_normal ?_)
    all_goals (refine nx_cond rfl (fun hc => ?_) (fun hc => ?_))
    all_goals (first | (exact Bool.noConfusion (hc.symm.trans (by first | rfl | assumption) : true = false)) | (exact Bool.noConfusion (hc.symm.trans (by first | rfl | assumption) : false = true)) | (all_goals (refine nx_region ?_; refine nx_op ?_; refine opw_yld (Yld.fieldAddr rfl) rfl ?_; refine nx_op ?_; refine opw_yld (Yld.load rfl) rfl ?_); all_goals (refine nx_op ?_; fail); all_goals (refine nx_op ?_; refine opw_yld (Yld.fieldAddr rfl) rfl ?_); all_goals (refine nx_op ?_; refine opw_store rfl rfl rfl ?_); all_goals refine nx_nil ?_) | (all_goals refine nx_skip ?_))
    all_goals (refine kp_blk_normal ?_; refine kp_code_normal ?_; refine nx_region ?_; refine nx_op ?_; refine opw_yld (Yld.addI rfl rfl (by omega) (by omega)) rfl ?_; refine nx_op ?_; refine opw_yld (Yld.move rfl) rfl ?_; refine nx_nil ?_)
    refine nx_round (m' := x.f.ents.length - (i + 1)) (L' := [[(b7, .cells [.int .i64 n, .int .i64 x.f.kind, .int .i64 x.f.mode, .int .i64 (2 + (dirs (x.f.ents.take i) : Int)), .int .i64 x.f.ents.length].toArray 54 (0, 0))], [(b4, .cells [.int .i64 0, .int .i64 0, .int .i64 0, .int .i64 0, .int .i64 0].toArray 54 (0, 0))], F]) ⟨i + 1, by omega, rfl, rfl, by rw [hd]⟩ (by omega) (by repeat' (first | exact .nil | refine .cons rfl ?_)) inferInstance

/-- Target. -/
def tgtA (A : Fs) (n : Int) : List UInt8 × Int := match fndA A n with
  | none => ([], 2)
  | some f => if f.kind = 3 then (f.data, 0) else ([], 22)
def strE (p : List UInt8 × Int) : Value := .tuple #[.string (ofBs p.1), .int .i64 p.2]
theorem sp63 (hT : InT F T) (n : Int) : Sp Tryd.prog 63 [.pointer (some ⟨T.t, 0, none⟩), .int .i64 n] F [] (fun v B => v = strE (tgtA (abs T.S) n) ∧ B = []) := by
  have hfa := fndA_abs T.S n
  refine sp_enter Tryd.func63 rfl Tryd.ntmps63 rfl (fun g => ?_)
  simp only [argFr, List.nil_append, Nat.reduceAdd]
  cases hf : fnd T.S n with
  | none =>
    all_goals (refine nx_seq ?_; refine nx_region ?_; refine nx_op ?_; refine opw_yld (Yld.assign rfl) rfl ?_; refine nx_op ?_; refine opw_yld (Yld.assign rfl) rfl ?_; refine nx_nil ?_; refine kp_code_normal ?_; refine nx_seq ?_; refine nx_region ?_; refine nx_op ?_; refine opw_yld (Yld.move rfl) rfl ?_; refine nx_op ?_; refine opw_yld (Yld.move rfl) rfl ?_)
    all_goals (refine nx_op ?_; (refine opw_call rfl (sp67 (hT.mono (by simp +contextual)) n) inferInstance rfl ?_; rintro _ _ ⟨rfl, rfl⟩; simp only [List.nil_append, hf, ptrO]))
    all_goals (refine nx_op ?_; refine opw_yld (Yld.assign rfl) rfl ?_; refine nx_nil ?_; refine kp_code_normal ?_; refine nx_block ?_; refine nx_seq ?_; refine nx_region ?_; refine nx_op ?_; refine opw_yld (Yld.move rfl) rfl ?_; refine nx_op ?_; refine opw_yld (Yld.eqNil rfl rfl) rfl ?_; refine nx_op ?_; refine opw_yld (Yld.assign rfl) rfl ?_; refine nx_nil ?_; refine kp_code_normal ?_)
    all_goals (refine nx_cond rfl (fun hc => ?_) (fun hc => ?_))
    all_goals (first | (exact Bool.noConfusion (hc.symm.trans (by first | rfl | assumption) : true = false)) | (exact Bool.noConfusion (hc.symm.trans (by first | rfl | assumption) : false = true)) | (all_goals (refine nx_seq ?_; refine nx_region ?_; refine nx_op ?_; refine opw_yld (Yld.assign rfl) rfl ?_; refine nx_op ?_; refine opw_yld (Yld.assign rfl) rfl ?_; refine nx_nil ?_; refine kp_code_normal ?_; refine nx_ret ?_; refine kp_blk_ret ?_); all_goals (exact res2 (by first | exact .inl rfl | exact .inr rfl) Tryd.results63 rfl rfl [] inferInstance ⟨by simp [tgtA, hfa, hf, strE, ofBs], rfl⟩)) | (all_goals (refine nx_seq ?_; refine nx_region ?_; refine nx_op ?_; refine opw_yld (Yld.move rfl) rfl ?_; refine nx_op ?_; refine opw_yld (Yld.nilCheck rfl) rfl ?_; refine nx_op ?_; refine opw_yld (Yld.fieldAddr rfl) rfl ?_; refine nx_op ?_; refine opw_yld (Yld.load rfl) rfl ?_; refine nx_op ?_; refine opw_yld (Yld.cmp rfl rfl rfl) rfl ?_; refine nx_op ?_; refine opw_yld (Yld.assign rfl) rfl ?_; refine nx_nil ?_; refine kp_code_normal ?_); all_goals (refine nx_cond rfl (fun hc => ?_) (fun hc => ?_)); all_goals (first | (exact Bool.noConfusion (hc.symm.trans (by first | rfl | assumption) : true = false)) | (exact Bool.noConfusion (hc.symm.trans (by first | rfl | assumption) : false = true)) | (all_goals (refine nx_seq ?_; refine nx_region ?_; refine nx_op ?_; refine opw_yld (Yld.assign rfl) rfl ?_; refine nx_op ?_; refine opw_yld (Yld.assign rfl) rfl ?_; refine nx_nil ?_; refine kp_code_normal ?_; refine nx_ret ?_; refine kp_blk_ret ?_); all_goals (exact res2 (by first | exact .inl rfl | exact .inr rfl) Tryd.results63 rfl rfl [] inferInstance ⟨by simp [tgtA, hfa, hf, strE, ofBs], rfl⟩)) | (all_goals (refine nx_seq ?_; refine nx_region ?_; refine nx_op ?_; refine opw_yld (Yld.move rfl) rfl ?_; refine nx_op ?_; refine opw_yld (Yld.nilCheck rfl) rfl ?_; refine nx_op ?_; refine opw_yld (Yld.fieldAddr rfl) rfl ?_; refine nx_op ?_; refine opw_yld (Yld.load rfl) rfl ?_); all_goals (refine nx_op ?_; fail); all_goals (refine nx_op ?_; refine opw_yld (Yld.assign rfl) rfl ?_; refine nx_op ?_; refine opw_yld (Yld.assign rfl) rfl ?_; refine nx_nil ?_; refine kp_code_normal ?_; refine nx_ret ?_; refine kp_blk_ret ?_); all_goals (exact res2 (by first | exact .inl rfl | exact .inr rfl) Tryd.results63 rfl rfl [] inferInstance ⟨by simp [tgtA, hfa, hf, strE, ofBs], rfl⟩)))))
  | some x =>
  have hN := hT.inN (fnd_mem hf).1
  have i1 := hN.blk
  by_cases hk : x.f.kind = 3
  case neg =>
    have hb : (x.f.kind != 3) = true := by simpa using hk
    all_goals (refine nx_seq ?_; refine nx_region ?_; refine nx_op ?_; refine opw_yld (Yld.assign rfl) rfl ?_; refine nx_op ?_; refine opw_yld (Yld.assign rfl) rfl ?_; refine nx_nil ?_; refine kp_code_normal ?_; refine nx_seq ?_; refine nx_region ?_; refine nx_op ?_; refine opw_yld (Yld.move rfl) rfl ?_; refine nx_op ?_; refine opw_yld (Yld.move rfl) rfl ?_)
    all_goals (refine nx_op ?_; (refine opw_call rfl (sp67 (hT.mono (by simp +contextual)) n) inferInstance rfl ?_; rintro _ _ ⟨rfl, rfl⟩; simp only [List.nil_append, hf, ptrO]))
    all_goals (refine nx_op ?_; refine opw_yld (Yld.assign rfl) rfl ?_; refine nx_nil ?_; refine kp_code_normal ?_; refine nx_block ?_; refine nx_seq ?_; refine nx_region ?_; refine nx_op ?_; refine opw_yld (Yld.move rfl) rfl ?_; refine nx_op ?_; refine opw_yld (Yld.eqNil rfl rfl) rfl ?_; refine nx_op ?_; refine opw_yld (Yld.assign rfl) rfl ?_; refine nx_nil ?_; refine kp_code_normal ?_)
    all_goals (refine nx_cond rfl (fun hc => ?_) (fun hc => ?_))
    all_goals (first | (exact Bool.noConfusion (hc.symm.trans (by first | rfl | assumption) : true = false)) | (exact Bool.noConfusion (hc.symm.trans (by first | rfl | assumption) : false = true)) | (all_goals (refine nx_seq ?_; refine nx_region ?_; refine nx_op ?_; refine opw_yld (Yld.assign rfl) rfl ?_; refine nx_op ?_; refine opw_yld (Yld.assign rfl) rfl ?_; refine nx_nil ?_; refine kp_code_normal ?_; refine nx_ret ?_; refine kp_blk_ret ?_); all_goals (exact res2 (by first | exact .inl rfl | exact .inr rfl) Tryd.results63 rfl rfl [] inferInstance ⟨by simp [tgtA, hfa, hf, strE, ofBs, hk], rfl⟩)) | (all_goals (refine nx_seq ?_; refine nx_region ?_; refine nx_op ?_; refine opw_yld (Yld.move rfl) rfl ?_; refine nx_op ?_; refine opw_yld (Yld.nilCheck rfl) rfl ?_; refine nx_op ?_; refine opw_yld (Yld.fieldAddr rfl) rfl ?_; refine nx_op ?_; refine opw_yld (Yld.load rfl) rfl ?_; refine nx_op ?_; refine opw_yld (Yld.cmp rfl rfl rfl) rfl ?_; refine nx_op ?_; refine opw_yld (Yld.assign rfl) rfl ?_; refine nx_nil ?_; refine kp_code_normal ?_); all_goals (refine nx_cond rfl (fun hc => ?_) (fun hc => ?_)); all_goals (first | (exact Bool.noConfusion (hc.symm.trans (by first | rfl | assumption) : true = false)) | (exact Bool.noConfusion (hc.symm.trans (by first | rfl | assumption) : false = true)) | (all_goals (refine nx_seq ?_; refine nx_region ?_; refine nx_op ?_; refine opw_yld (Yld.assign rfl) rfl ?_; refine nx_op ?_; refine opw_yld (Yld.assign rfl) rfl ?_; refine nx_nil ?_; refine kp_code_normal ?_; refine nx_ret ?_; refine kp_blk_ret ?_); all_goals (exact res2 (by first | exact .inl rfl | exact .inr rfl) Tryd.results63 rfl rfl [] inferInstance ⟨by simp [tgtA, hfa, hf, strE, ofBs, hk], rfl⟩)) | (all_goals (refine nx_seq ?_; refine nx_region ?_; refine nx_op ?_; refine opw_yld (Yld.move rfl) rfl ?_; refine nx_op ?_; refine opw_yld (Yld.nilCheck rfl) rfl ?_; refine nx_op ?_; refine opw_yld (Yld.fieldAddr rfl) rfl ?_; refine nx_op ?_; refine opw_yld (Yld.load rfl) rfl ?_); all_goals (refine nx_op ?_; fail); all_goals (refine nx_op ?_; refine opw_yld (Yld.assign rfl) rfl ?_; refine nx_op ?_; refine opw_yld (Yld.assign rfl) rfl ?_; refine nx_nil ?_; refine kp_code_normal ?_; refine nx_ret ?_; refine kp_blk_ret ?_); all_goals (exact res2 (by first | exact .inl rfl | exact .inr rfl) Tryd.results63 rfl rfl [] inferInstance ⟨by simp [tgtA, hfa, hf, strE, ofBs, hk], rfl⟩)))))
  have hb : (x.f.kind != 3) = false := by simpa using hk
  have hr : tgtA (abs T.S) n = (x.f.data, 0) := by simp [tgtA, hfa, hf, hk]
  rw [hr]
  rcases hN.ok.data.2 with ⟨h1, h2, h3⟩ | ⟨b, cap, tl, h1, h2, h3, _⟩
  · have hd : x.f.data = [] := List.eq_nil_of_length_eq_zero h2
    rw [h1] at i1
    rw [hd]
    all_goals (refine nx_seq ?_; refine nx_region ?_; refine nx_op ?_; refine opw_yld (Yld.assign rfl) rfl ?_; refine nx_op ?_; refine opw_yld (Yld.assign rfl) rfl ?_; refine nx_nil ?_; refine kp_code_normal ?_; refine nx_seq ?_; refine nx_region ?_; refine nx_op ?_; refine opw_yld (Yld.move rfl) rfl ?_; refine nx_op ?_; refine opw_yld (Yld.move rfl) rfl ?_)
    all_goals (refine nx_op ?_; (refine opw_call rfl (sp67 (hT.mono (by simp +contextual)) n) inferInstance rfl ?_; rintro _ _ ⟨rfl, rfl⟩; simp only [List.nil_append, hf, ptrO]))
    all_goals (refine nx_op ?_; refine opw_yld (Yld.assign rfl) rfl ?_; refine nx_nil ?_; refine kp_code_normal ?_; refine nx_block ?_; refine nx_seq ?_; refine nx_region ?_; refine nx_op ?_; refine opw_yld (Yld.move rfl) rfl ?_; refine nx_op ?_; refine opw_yld (Yld.eqNil rfl rfl) rfl ?_; refine nx_op ?_; refine opw_yld (Yld.assign rfl) rfl ?_; refine nx_nil ?_; refine kp_code_normal ?_)
    all_goals (refine nx_cond rfl (fun hc => ?_) (fun hc => ?_))
    all_goals (first | (exact Bool.noConfusion (hc.symm.trans (by first | rfl | assumption) : true = false)) | (exact Bool.noConfusion (hc.symm.trans (by first | rfl | assumption) : false = true)) | (all_goals (refine nx_seq ?_; refine nx_region ?_; refine nx_op ?_; refine opw_yld (Yld.assign rfl) rfl ?_; refine nx_op ?_; refine opw_yld (Yld.assign rfl) rfl ?_; refine nx_nil ?_; refine kp_code_normal ?_; refine nx_ret ?_; refine kp_blk_ret ?_); all_goals (exact res2 (by first | exact .inl rfl | exact .inr rfl) Tryd.results63 rfl rfl [] inferInstance ⟨rfl, rfl⟩)) | (all_goals (refine nx_seq ?_; refine nx_region ?_; refine nx_op ?_; refine opw_yld (Yld.move rfl) rfl ?_; refine nx_op ?_; refine opw_yld (Yld.nilCheck rfl) rfl ?_; refine nx_op ?_; refine opw_yld (Yld.fieldAddr rfl) rfl ?_; refine nx_op ?_; refine opw_yld (Yld.load rfl) rfl ?_; refine nx_op ?_; refine opw_yld (Yld.cmp rfl rfl rfl) rfl ?_; refine nx_op ?_; refine opw_yld (Yld.assign rfl) rfl ?_; refine nx_nil ?_; refine kp_code_normal ?_); all_goals (refine nx_cond rfl (fun hc => ?_) (fun hc => ?_)); all_goals (first | (exact Bool.noConfusion (hc.symm.trans (by first | rfl | assumption) : true = false)) | (exact Bool.noConfusion (hc.symm.trans (by first | rfl | assumption) : false = true)) | (all_goals (refine nx_seq ?_; refine nx_region ?_; refine nx_op ?_; refine opw_yld (Yld.assign rfl) rfl ?_; refine nx_op ?_; refine opw_yld (Yld.assign rfl) rfl ?_; refine nx_nil ?_; refine kp_code_normal ?_; refine nx_ret ?_; refine kp_blk_ret ?_); all_goals (exact res2 (by first | exact .inl rfl | exact .inr rfl) Tryd.results63 rfl rfl [] inferInstance ⟨rfl, rfl⟩)) | (all_goals (refine nx_seq ?_; refine nx_region ?_; refine nx_op ?_; refine opw_yld (Yld.move rfl) rfl ?_; refine nx_op ?_; refine opw_yld (Yld.nilCheck rfl) rfl ?_; refine nx_op ?_; refine opw_yld (Yld.fieldAddr rfl) rfl ?_; refine nx_op ?_; refine opw_yld (Yld.load rfl) rfl ?_; refine nx_op ?_; refine opw_yld (Yld.bytesStringNil rfl) rfl ?_; refine nx_op ?_; refine opw_yld (Yld.assign rfl) rfl ?_; refine nx_op ?_; refine opw_yld (Yld.assign rfl) rfl ?_; refine nx_nil ?_; refine kp_code_normal ?_; refine nx_ret ?_; refine kp_blk_ret ?_); all_goals (exact res2 (by first | exact .inl rfl | exact .inr rfl) Tryd.results63 rfl rfl [] inferInstance ⟨rfl, rfl⟩)))))
  · have i2 : InC b (.cells (bytesV x.f.data ++ tl).toArray 5 (0, 0)) F := ⟨hN.sub _ (by simp [Nd.chunk, h2])⟩
    rw [h1] at i1
    all_goals (refine nx_seq ?_; refine nx_region ?_; refine nx_op ?_; refine opw_yld (Yld.assign rfl) rfl ?_; refine nx_op ?_; refine opw_yld (Yld.assign rfl) rfl ?_; refine nx_nil ?_; refine kp_code_normal ?_; refine nx_seq ?_; refine nx_region ?_; refine nx_op ?_; refine opw_yld (Yld.move rfl) rfl ?_; refine nx_op ?_; refine opw_yld (Yld.move rfl) rfl ?_)
    all_goals (refine nx_op ?_; (refine opw_call rfl (sp67 (hT.mono (by simp +contextual)) n) inferInstance rfl ?_; rintro _ _ ⟨rfl, rfl⟩; simp only [List.nil_append, hf, ptrO]))
    all_goals (refine nx_op ?_; refine opw_yld (Yld.assign rfl) rfl ?_; refine nx_nil ?_; refine kp_code_normal ?_; refine nx_block ?_; refine nx_seq ?_; refine nx_region ?_; refine nx_op ?_; refine opw_yld (Yld.move rfl) rfl ?_; refine nx_op ?_; refine opw_yld (Yld.eqNil rfl rfl) rfl ?_; refine nx_op ?_; refine opw_yld (Yld.assign rfl) rfl ?_; refine nx_nil ?_; refine kp_code_normal ?_)
    all_goals (refine nx_cond rfl (fun hc => ?_) (fun hc => ?_))
    all_goals (first | (exact Bool.noConfusion (hc.symm.trans (by first | rfl | assumption) : true = false)) | (exact Bool.noConfusion (hc.symm.trans (by first | rfl | assumption) : false = true)) | (all_goals (refine nx_seq ?_; refine nx_region ?_; refine nx_op ?_; refine opw_yld (Yld.assign rfl) rfl ?_; refine nx_op ?_; refine opw_yld (Yld.assign rfl) rfl ?_; refine nx_nil ?_; refine kp_code_normal ?_; refine nx_ret ?_; refine kp_blk_ret ?_); all_goals (exact res2 (by first | exact .inl rfl | exact .inr rfl) Tryd.results63 rfl rfl [] inferInstance ⟨rfl, rfl⟩)) | (all_goals (refine nx_seq ?_; refine nx_region ?_; refine nx_op ?_; refine opw_yld (Yld.move rfl) rfl ?_; refine nx_op ?_; refine opw_yld (Yld.nilCheck rfl) rfl ?_; refine nx_op ?_; refine opw_yld (Yld.fieldAddr rfl) rfl ?_; refine nx_op ?_; refine opw_yld (Yld.load rfl) rfl ?_; refine nx_op ?_; refine opw_yld (Yld.cmp rfl rfl rfl) rfl ?_; refine nx_op ?_; refine opw_yld (Yld.assign rfl) rfl ?_; refine nx_nil ?_; refine kp_code_normal ?_); all_goals (refine nx_cond rfl (fun hc => ?_) (fun hc => ?_)); all_goals (first | (exact Bool.noConfusion (hc.symm.trans (by first | rfl | assumption) : true = false)) | (exact Bool.noConfusion (hc.symm.trans (by first | rfl | assumption) : false = true)) | (all_goals (refine nx_seq ?_; refine nx_region ?_; refine nx_op ?_; refine opw_yld (Yld.assign rfl) rfl ?_; refine nx_op ?_; refine opw_yld (Yld.assign rfl) rfl ?_; refine nx_nil ?_; refine kp_code_normal ?_; refine nx_ret ?_; refine kp_blk_ret ?_); all_goals (exact res2 (by first | exact .inl rfl | exact .inr rfl) Tryd.results63 rfl rfl [] inferInstance ⟨rfl, rfl⟩)) | (all_goals (refine nx_seq ?_; refine nx_region ?_; refine nx_op ?_; refine opw_yld (Yld.move rfl) rfl ?_; refine nx_op ?_; refine opw_yld (Yld.nilCheck rfl) rfl ?_; refine nx_op ?_; refine opw_yld (Yld.fieldAddr rfl) rfl ?_; refine nx_op ?_; refine opw_yld (Yld.load rfl) rfl ?_; refine nx_op ?_; refine opw_yld (Yld.bytesString (b := b) (cs := bytesV x.f.data ++ tl) (l := x.f.data) rfl (by simp) rfl) rfl ?_; refine nx_op ?_; refine opw_yld (Yld.assign rfl) rfl ?_; refine nx_op ?_; refine opw_yld (Yld.assign rfl) rfl ?_; refine nx_nil ?_; refine kp_code_normal ?_; refine nx_ret ?_; refine kp_blk_ret ?_); all_goals (exact res2 (by first | exact .inl rfl | exact .inr rfl) Tryd.results63 rfl rfl [] inferInstance ⟨rfl, rfl⟩)))))

/-! The walker. -/
abbrev wc (b t : Nat) (dir links : Int) : Chunk := [(b, .cells [.pointer (some ⟨t, 0, none⟩), .int .i64 dir, .int .i64 links].toArray 95 (0, 0))]
def kindA (A : Fs) (n : Int) : Int := match fndA A n with
  | none => 0
  | some f => f.kind
theorem sp130 (hT : InT F T) (n : Int) {b : Nat} {dir links : Int} (hb : ∀ y ∈ wc b T.t dir links, y ∈ F) : Sp Tryd.prog 130 [.pointer (some ⟨b, 0, none⟩), .int .i64 n] F [] (fun v B => v = .int .i64 (kindA (abs T.S) n) ∧ B = []) := by
  have i1 : InC b (.cells [.pointer (some ⟨T.t, 0, none⟩), .int .i64 dir, .int .i64 links].toArray 95 (0, 0)) F := ⟨hb _ (by simp [wc])⟩
  have hfa := fndA_abs T.S n
  refine sp_enter Tryd.func130 rfl Tryd.ntmps130 rfl (fun g => ?_)
  simp only [argFr, List.nil_append, Nat.reduceAdd]
  cases hf : fnd T.S n with
  | none =>
    all_goals (refine nx_seq ?_; refine nx_region ?_; refine nx_op ?_; refine opw_yld (Yld.assign rfl) rfl ?_; refine nx_nil ?_; refine kp_code_normal ?_; refine nx_seq ?_; refine nx_region ?_; refine nx_op ?_; refine opw_yld (Yld.move rfl) rfl ?_; refine nx_op ?_; refine opw_yld (Yld.nilCheck rfl) rfl ?_; refine nx_op ?_; refine opw_yld (Yld.fieldAddr rfl) rfl ?_; refine nx_op ?_; refine opw_yld (Yld.load rfl) rfl ?_; refine nx_op ?_; refine opw_yld (Yld.move rfl) rfl ?_)
    all_goals (refine nx_op ?_; (refine opw_call rfl (sp19 (hT.mono (by simp +contextual)) n) inferInstance rfl ?_; rintro _ _ ⟨rfl, rfl⟩; simp only [List.nil_append, hf, Option.map_none, infoR, infoNil]))
    all_goals (refine nx_op ?_; refine opw_yld (Yld.move rfl) rfl ?_; refine nx_op ?_; refine opw_yld (Yld.extract rfl rfl) rfl ?_; refine nx_op ?_; refine opw_yld (Yld.extract rfl rfl) rfl ?_)
    all_goals (refine nx_op ?_; refine opw_alc Alc.alloc rfl (fun b5 => ?_))
    all_goals (refine nx_op ?_; refine opw_storeAgg rfl rfl rfl (by simp [Value.oneCell']) ?_)
    all_goals (refine nx_op ?_; refine opw_yld (Yld.assign rfl) rfl ?_; refine nx_nil ?_; refine kp_code_normal ?_; refine nx_seq ?_; refine nx_region ?_; refine nx_op ?_; refine opw_yld (Yld.fieldAddr rfl) rfl ?_; refine nx_op ?_; refine opw_yld (Yld.load rfl) rfl ?_; refine nx_op ?_; refine opw_yld (Yld.assign rfl) rfl ?_; refine nx_nil ?_; refine kp_code_normal ?_; refine nx_ret ?_)
    all_goals (exact res1 (by first | exact .inl rfl | exact .inr rfl) Tryd.results130 rfl [] inferInstance ⟨by simp [kindA, hfa, hf], rfl⟩)
  | some x =>
    all_goals (refine nx_seq ?_; refine nx_region ?_; refine nx_op ?_; refine opw_yld (Yld.assign rfl) rfl ?_; refine nx_nil ?_; refine kp_code_normal ?_; refine nx_seq ?_; refine nx_region ?_; refine nx_op ?_; refine opw_yld (Yld.move rfl) rfl ?_; refine nx_op ?_; refine opw_yld (Yld.nilCheck rfl) rfl ?_; refine nx_op ?_; refine opw_yld (Yld.fieldAddr rfl) rfl ?_; refine nx_op ?_; refine opw_yld (Yld.load rfl) rfl ?_; refine nx_op ?_; refine opw_yld (Yld.move rfl) rfl ?_)
    all_goals (refine nx_op ?_; (refine opw_call rfl (sp19 (hT.mono (by simp +contextual)) n) inferInstance rfl ?_; rintro _ _ ⟨rfl, rfl⟩; simp only [List.nil_append, hf, Option.map_some, infoR, infoV]))
    all_goals (refine nx_op ?_; refine opw_yld (Yld.move rfl) rfl ?_; refine nx_op ?_; refine opw_yld (Yld.extract rfl rfl) rfl ?_; refine nx_op ?_; refine opw_yld (Yld.extract rfl rfl) rfl ?_)
    all_goals (refine nx_op ?_; refine opw_alc Alc.alloc rfl (fun b5 => ?_))
    all_goals (refine nx_op ?_; refine opw_storeAgg rfl rfl rfl (by simp [Value.oneCell']) ?_)
    all_goals (refine nx_op ?_; refine opw_yld (Yld.assign rfl) rfl ?_; refine nx_nil ?_; refine kp_code_normal ?_; refine nx_seq ?_; refine nx_region ?_; refine nx_op ?_; refine opw_yld (Yld.fieldAddr rfl) rfl ?_; refine nx_op ?_; refine opw_yld (Yld.load rfl) rfl ?_; refine nx_op ?_; refine opw_yld (Yld.assign rfl) rfl ?_; refine nx_nil ?_; refine kp_code_normal ?_; refine nx_ret ?_)
    all_goals (exact res1 (by first | exact .inl rfl | exact .inr rfl) Tryd.results130 rfl [] inferInstance ⟨by simp [kindA, hfa, hf], rfl⟩)
end
end Go.Proofs.YtdobndclhbkooaaDoor
