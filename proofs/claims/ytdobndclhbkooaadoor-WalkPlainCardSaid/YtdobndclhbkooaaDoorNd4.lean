/- What a new node may be, the least free number, a name's place; bytes copied. Conditions: the tree lies in the memory that is kept. -/
import Derived.Test.YtdobndclhbkooaaDoorNd3
import Derived.Lib.BytesEntry
namespace Go.Proofs.YtdobndclhbkooaaDoor
open Go Go.SL
set_option maxRecDepth 100000
set_option linter.unusedVariables false

theorem ext142 : extQ Tryd.prog 142 Extern.BytealgIndexByte.indexByte := ⟨Tryd.f142, Tryd.func142, by kernel_rfl, by kernel_rfl, by kernel_rfl, by kernel_rfl⟩

theorem bytesOf_nat (l : List UInt8) : Lib.bytesOf (l.map fun c => (c.toNat : Int)) = l := by
  induction l with
  | nil => rfl
  | cons a l ih => simp only [Lib.bytesOf, List.map_cons] at ih ⊢; rw [ih]; simp

section
variable {F : Chunk} {T : Tr}
/-- bytes.IndexByte. -/
theorem sp132 {v : Value} {l : List UInt8} (hv : Ro F v l.length (bytesV l)) (hl : 0 < l.length) (c : Int) : Sp Tryd.prog 132 [v, .int .u8 c] F [] (fun v B => v = .int .i64 (Lib.indexByte l c.toNat.toUInt8) ∧ B = []) := by
  rcases hv with ⟨rfl, h0, h1⟩ | ⟨b, o, cap, cs, et, z, rfl, hcap, hm, hcs⟩
  · omega
  · have hrun : ∀ g L w, Sat g L w → (b, Obj.cells cs.toArray et z) ∈ L.flatten → (Extern.BytealgIndexByte.indexByte #[.slice (some ⟨b, o, none⟩) l.length cap, .int .u8 c]).run Tryd.prog w = .ok (.int .i64 (Lib.indexByte l c.toNat.toUInt8)) w := by
      intro g L w hs hb
      have h := hs.cells_at (vs := bytesV l) hb hcs
      have := Lib.run_indexByteSlice (P := Tryd.prog) (w := w) b o l.length cap (l.map fun c => (c.toNat : Int)) (by simp) (fun i hi => by
        have h2 := h i (.int .u8 l[i].toNat) (by simp [bytesV, hi])
        have e : (⟨b, o, none⟩ : Addr).add i = ⟨b, o + i, none⟩ := by by_cases e : i = 0 <;> simp [Addr.add, e]
        rw [e] at h2
        rw [h2]
        simp [hi]) c
      rw [bytesOf_nat] at this
      exact this
    refine sp_enter Tryd.func132 rfl Tryd.ntmps132 rfl (fun g => ?_)
    simp only [argFr, List.nil_append, Nat.reduceAdd]
    all_goals refine nx_seq ?_
    all_goals refine nx_region ?_
    all_goals (refine nx_op ?_; refine opw_yld (Yld.assign rfl) rfl ?_)
    all_goals refine nx_nil ?_
    all_goals refine kp_code_normal ?_
    all_goals refine nx_seq ?_
    all_goals refine nx_region ?_
    all_goals (refine nx_op ?_; refine opw_yld (Yld.move rfl) rfl ?_)
    all_goals (refine nx_op ?_; refine opw_yld (Yld.move rfl) rfl ?_)
    all_goals (refine nx_op ?_; (refine opw_yld (Yld.ext ext142 rfl (fun w hs => hrun _ _ w hs (by simpa using hm))) rfl ?_))
    all_goals (refine nx_op ?_; refine opw_yld (Yld.assign rfl) rfl ?_)
    all_goals refine nx_nil ?_
    all_goals refine kp_code_normal ?_
    all_goals refine nx_ret ?_
    all_goals (exact res1 (by first | exact .inl rfl | exact .inr rfl) Tryd.results132 rfl [] inferInstance ⟨rfl, rfl⟩)

/-- good. -/
def goodB (kind mode : Int) (data : List UInt8) : Bool :=
  if mode < 0 ∨ 511 < mode ∨ 1048576 < data.length then false
  else if kind = 1 then true
  else if kind = 3 then decide (1 ≤ data.length) && decide (data.length ≤ 4096) && decide (Lib.indexByte data 0 < 0)
  else if kind = 2 ∨ kind = 4 ∨ kind = 5 then data.length == 0
  else false
theorem Ro_slice {v : Value} {m : Nat} {xs : List Value} (h : Ro F v m xs) : ∃ a cap, v = .slice a m cap := by
  rcases h with ⟨rfl, rfl, _⟩ | ⟨b, o, cap, cs, e, z, rfl, _⟩
  · exact ⟨_, _, rfl⟩
  · exact ⟨_, _, rfl⟩
theorem sp95 {v : Value} {l : List UInt8} (hv : Ro F v l.length (bytesV l)) (kind mode : Int) : Sp Tryd.prog 95 [.int .i64 kind, .int .i64 mode, v] F [] (fun v B => v = .bool (goodB kind mode l) ∧ B = []) := by
  obtain ⟨a, cap, e⟩ := Ro_slice hv
  have hlen : ((l.length : Int) == 0) = (l.length == 0) := by rw [Bool.eq_iff_iff]; simp
  by_cases hl : 0 < l.length
  · have hcall : ∀ F', (∀ y ∈ F, y ∈ F') → Sp Tryd.prog 132 [v, .int .u8 0] F' [] (fun v B => v = .int .i64 (Lib.indexByte l (0 : Int).toNat.toUInt8) ∧ B = []) := fun F' h => sp132 (hv.mono h) hl 0
    rw [e] at hcall ⊢
    refine sp_enter Tryd.func95 rfl Tryd.ntmps95 rfl (fun g => ?_)
    simp only [argFr, List.nil_append, Nat.reduceAdd]
    all_goals refine nx_seq ?_
    all_goals refine nx_region ?_
    all_goals (refine nx_op ?_; refine opw_yld (Yld.assign rfl) rfl ?_)
    all_goals refine nx_nil ?_
    all_goals refine kp_code_normal ?_
    all_goals refine nx_seq ?_
    all_goals refine nx_seq ?_
    all_goals refine nx_region ?_
    all_goals (refine nx_op ?_; refine opw_yld (Yld.move rfl) rfl ?_)
    all_goals (refine nx_op ?_; refine opw_yld (Yld.cmp rfl rfl rfl) rfl ?_)
    all_goals (refine nx_op ?_; refine opw_yld (Yld.move rfl) rfl ?_)
    all_goals (first | refine nx_guard_n rfl (by first | rfl | assumption) rfl ?_ | refine nx_guard_u rfl rfl ?_ | ((first | refine nx_guard_y rfl (by first | rfl | assumption) ?_ | refine nx_guard rfl rfl (fun hc => ?_) (fun hc => ?_)); all_goals (first | (refine opw_yld (Yld.move rfl) rfl ?_) | skip)))
    all_goals (first | refine nx_guard_n rfl (by first | rfl | assumption) rfl ?_ | refine nx_guard_u rfl rfl ?_ | ((first | refine nx_guard_y rfl (by first | rfl | assumption) ?_ | refine nx_guard rfl rfl (fun hc => ?_) (fun hc => ?_)); all_goals (first | (refine opw_yld (Yld.cmp rfl rfl rfl) rfl ?_) | skip)))
    all_goals (refine nx_op ?_; (first | refine opw_yld (Yld.pick_t rfl (by first | rfl | assumption) rfl) rfl ?_ | refine opw_yld (Yld.pick_f rfl (by first | rfl | assumption) rfl) rfl ?_))
    all_goals (refine nx_op ?_; refine opw_yld (Yld.move rfl) rfl ?_)
    all_goals (first | refine nx_guard_n rfl (by first | rfl | assumption) rfl ?_ | refine nx_guard_u rfl rfl ?_ | ((first | refine nx_guard_y rfl (by first | rfl | assumption) ?_ | refine nx_guard rfl rfl (fun hc => ?_) (fun hc => ?_)); all_goals (first | (refine opw_yld (Yld.move rfl) rfl ?_) | skip)))
    all_goals (first | refine nx_guard_n rfl (by first | rfl | assumption) rfl ?_ | refine nx_guard_u rfl rfl ?_ | ((first | refine nx_guard_y rfl (by first | rfl | assumption) ?_ | refine nx_guard rfl rfl (fun hc => ?_) (fun hc => ?_)); all_goals (first | (refine opw_yld (Yld.lenSlice rfl) rfl ?_) | skip)))
    all_goals (first | refine nx_guard_n rfl (by first | rfl | assumption) rfl ?_ | refine nx_guard_u rfl rfl ?_ | ((first | refine nx_guard_y rfl (by first | rfl | assumption) ?_ | refine nx_guard rfl rfl (fun hc => ?_) (fun hc => ?_)); all_goals (first | (refine opw_yld (Yld.cmp rfl rfl rfl) rfl ?_) | skip)))
    all_goals (refine nx_op ?_; (first | refine opw_yld (Yld.pick_t rfl (by first | rfl | assumption) rfl) rfl ?_ | refine opw_yld (Yld.pick_f rfl (by first | rfl | assumption) rfl) rfl ?_))
    all_goals refine nx_nil ?_
    all_goals refine kp_code_normal ?_
    all_goals (refine nx_cond rfl (fun hc => ?_) (fun hc => ?_))
    all_goals (first | (exact Bool.noConfusion (hc.symm.trans (by first | rfl | assumption) : true = false)) | (exact Bool.noConfusion (hc.symm.trans (by first | rfl | assumption) : false = true)) | (all_goals refine nx_seq ?_; all_goals refine nx_region ?_; all_goals (refine nx_op ?_; refine opw_yld (Yld.assign rfl) rfl ?_); all_goals refine nx_nil ?_; all_goals refine kp_code_normal ?_; all_goals refine nx_ret ?_; all_goals refine kp_code_ret ?_; all_goals (refine res1 (by first | exact .inl rfl | exact .inr rfl) Tryd.results95 rfl [] inferInstance ⟨?_, rfl⟩; (first | (simp_all [goodB]; done) | (simp_all [goodB]; omega) | (simp_all [goodB]; intros; omega) | (simp only [decide_eq_true_eq, decide_eq_false_iff_not, beq_iff_eq, beq_eq_false_iff_ne] at *; rw [goodB, if_neg (by omega), if_neg (by omega), if_pos (by omega)]; simp; omega)))) | (all_goals refine nx_skip ?_))
    all_goals refine kp_code_normal ?_
    all_goals refine nx_seq ?_
    all_goals refine nx_seq ?_
    all_goals refine nx_region ?_
    all_goals (refine nx_op ?_; refine opw_yld (Yld.move rfl) rfl ?_)
    all_goals refine nx_nil ?_
    all_goals refine kp_code_normal ?_
    all_goals refine nx_block ?_
    all_goals refine nx_seq ?_
    all_goals refine nx_region ?_
    all_goals (refine nx_op ?_; refine opw_yld (Yld.cmp rfl rfl rfl) rfl ?_)
    all_goals (refine nx_op ?_; refine opw_yld (Yld.assign rfl) rfl ?_)
    all_goals refine nx_nil ?_
    all_goals refine kp_code_normal ?_
    all_goals (refine nx_cond rfl (fun hc => ?_) (fun hc => ?_))
    all_goals (first | (exact Bool.noConfusion (hc.symm.trans (by first | rfl | assumption) : true = false)) | (exact Bool.noConfusion (hc.symm.trans (by first | rfl | assumption) : false = true)) | (all_goals refine nx_seq ?_; all_goals refine nx_region ?_; all_goals (refine nx_op ?_; refine opw_yld (Yld.assign rfl) rfl ?_); all_goals refine nx_nil ?_; all_goals refine kp_code_normal ?_; all_goals refine nx_ret ?_; all_goals refine kp_blk_ret ?_; all_goals refine kp_code_ret ?_; all_goals (refine res1 (by first | exact .inl rfl | exact .inr rfl) Tryd.results95 rfl [] inferInstance ⟨?_, rfl⟩; (first | (simp_all [goodB]; done) | (simp_all [goodB]; omega) | (simp_all [goodB]; intros; omega) | (simp only [decide_eq_true_eq, decide_eq_false_iff_not, beq_iff_eq, beq_eq_false_iff_ne] at *; rw [goodB, if_neg (by omega), if_neg (by omega), if_pos (by omega)]; simp; omega)))) | (all_goals refine nx_seq ?_; all_goals refine nx_region ?_; all_goals (refine nx_op ?_; refine opw_yld (Yld.cmp rfl rfl rfl) rfl ?_); all_goals (refine nx_op ?_; refine opw_yld (Yld.assign rfl) rfl ?_); all_goals refine nx_nil ?_; all_goals refine kp_code_normal ?_; all_goals (refine nx_cond rfl (fun hc => ?_) (fun hc => ?_)); all_goals (first | (exact Bool.noConfusion (hc.symm.trans (by first | rfl | assumption) : true = false)) | (exact Bool.noConfusion (hc.symm.trans (by first | rfl | assumption) : false = true)) | (all_goals refine nx_seq ?_; all_goals refine nx_region ?_; all_goals (refine nx_op ?_; refine opw_yld (Yld.move rfl) rfl ?_); all_goals (refine nx_op ?_; refine opw_yld (Yld.lenSlice rfl) rfl ?_); all_goals (refine nx_op ?_; refine opw_yld (Yld.cmp rfl rfl rfl) rfl ?_); all_goals (refine nx_op ?_; refine opw_yld (Yld.move rfl) rfl ?_); all_goals (first | refine nx_guard_n rfl (by first | rfl | assumption) rfl ?_ | refine nx_guard_u rfl rfl ?_ | ((first | refine nx_guard_y rfl (by first | rfl | assumption) ?_ | refine nx_guard rfl rfl (fun hc => ?_) (fun hc => ?_)); all_goals (first | (refine opw_yld (Yld.move rfl) rfl ?_) | skip))); all_goals (first | refine nx_guard_n rfl (by first | rfl | assumption) rfl ?_ | refine nx_guard_u rfl rfl ?_ | ((first | refine nx_guard_y rfl (by first | rfl | assumption) ?_ | refine nx_guard rfl rfl (fun hc => ?_) (fun hc => ?_)); all_goals (first | (refine opw_yld (Yld.lenSlice rfl) rfl ?_) | skip))); all_goals (first | refine nx_guard_n rfl (by first | rfl | assumption) rfl ?_ | refine nx_guard_u rfl rfl ?_ | ((first | refine nx_guard_y rfl (by first | rfl | assumption) ?_ | refine nx_guard rfl rfl (fun hc => ?_) (fun hc => ?_)); all_goals (first | (refine opw_yld (Yld.cmp rfl rfl rfl) rfl ?_) | skip))); all_goals (refine nx_op ?_; (first | refine opw_yld (Yld.pick_t rfl (by first | rfl | assumption) rfl) rfl ?_ | refine opw_yld (Yld.pick_f rfl (by first | rfl | assumption) rfl) rfl ?_)); all_goals (refine nx_op ?_; refine opw_yld (Yld.move rfl) rfl ?_); all_goals (first | refine nx_guard_n rfl (by first | rfl | assumption) rfl ?_ | refine nx_guard_u rfl rfl ?_ | ((first | refine nx_guard_y rfl (by first | rfl | assumption) ?_ | refine nx_guard rfl rfl (fun hc => ?_) (fun hc => ?_)); all_goals (first | (refine opw_yld (Yld.move rfl) rfl ?_) | skip))); all_goals (first | refine nx_guard_n rfl (by first | rfl | assumption) rfl ?_ | refine nx_guard_u rfl rfl ?_ | ((first | refine nx_guard_y rfl (by first | rfl | assumption) ?_ | refine nx_guard rfl rfl (fun hc => ?_) (fun hc => ?_)); all_goals (first | ((refine opw_call rfl (hcall _ (fun y hy => by simp [hy])) inferInstance rfl ?_; rintro _ _ ⟨rfl, rfl⟩; simp only [List.nil_append])) | skip))); all_goals (first | refine nx_guard_n rfl (by first | rfl | assumption) rfl ?_ | refine nx_guard_u rfl rfl ?_ | ((first | refine nx_guard_y rfl (by first | rfl | assumption) ?_ | refine nx_guard rfl rfl (fun hc => ?_) (fun hc => ?_)); all_goals (first | (refine opw_yld (Yld.cmp rfl rfl rfl) rfl ?_) | skip))); all_goals (refine nx_op ?_; (first | refine opw_yld (Yld.pick_t rfl (by first | rfl | assumption) rfl) rfl ?_ | refine opw_yld (Yld.pick_f rfl (by first | rfl | assumption) rfl) rfl ?_)); all_goals (refine nx_op ?_; refine opw_yld (Yld.assign rfl) rfl ?_); all_goals refine nx_nil ?_; all_goals refine kp_code_normal ?_; all_goals refine nx_ret ?_; all_goals refine kp_blk_ret ?_; all_goals refine kp_code_ret ?_; all_goals (refine res1 (by first | exact .inl rfl | exact .inr rfl) Tryd.results95 rfl [] inferInstance ⟨?_, rfl⟩; (first | (simp_all [goodB]; done) | (simp_all [goodB]; omega) | (simp_all [goodB]; intros; omega) | (simp only [decide_eq_true_eq, decide_eq_false_iff_not, beq_iff_eq, beq_eq_false_iff_ne] at *; rw [goodB, if_neg (by omega), if_neg (by omega), if_pos (by omega)]; simp; omega)))) | (all_goals refine nx_seq ?_; all_goals refine nx_seq ?_; all_goals refine nx_region ?_; all_goals (refine nx_op ?_; refine opw_yld (Yld.cmp rfl rfl rfl) rfl ?_); all_goals (refine nx_op ?_; refine opw_yld (Yld.assign rfl) rfl ?_); all_goals refine nx_nil ?_; all_goals refine kp_code_normal ?_; all_goals (refine nx_cond rfl (fun hc => ?_) (fun hc => ?_)); all_goals (first | (exact Bool.noConfusion (hc.symm.trans (by first | rfl | assumption) : true = false)) | (exact Bool.noConfusion (hc.symm.trans (by first | rfl | assumption) : false = true)) | (all_goals refine nx_skip ?_) | (all_goals refine nx_seq ?_; all_goals refine nx_region ?_; all_goals (refine nx_op ?_; refine opw_yld (Yld.cmp rfl rfl rfl) rfl ?_); all_goals (refine nx_op ?_; refine opw_yld (Yld.assign rfl) rfl ?_); all_goals refine nx_nil ?_; all_goals refine kp_code_normal ?_; all_goals (refine nx_cond rfl (fun hc => ?_) (fun hc => ?_)); all_goals (first | (exact Bool.noConfusion (hc.symm.trans (by first | rfl | assumption) : true = false)) | (exact Bool.noConfusion (hc.symm.trans (by first | rfl | assumption) : false = true)) | (all_goals refine nx_skip ?_) | (all_goals refine nx_region ?_; all_goals (refine nx_op ?_; refine opw_yld (Yld.cmp rfl rfl rfl) rfl ?_); all_goals (refine nx_op ?_; refine opw_yld (Yld.assign rfl) rfl ?_); all_goals refine nx_nil ?_)))); all_goals refine kp_code_normal ?_; all_goals (refine nx_cond rfl (fun hc => ?_) (fun hc => ?_)); all_goals (first | (exact Bool.noConfusion (hc.symm.trans (by first | rfl | assumption) : true = false)) | (exact Bool.noConfusion (hc.symm.trans (by first | rfl | assumption) : false = true)) | (all_goals refine nx_seq ?_; all_goals refine nx_region ?_; all_goals (refine nx_op ?_; refine opw_yld (Yld.move rfl) rfl ?_); all_goals (refine nx_op ?_; refine opw_yld (Yld.lenSlice rfl) rfl ?_); all_goals (refine nx_op ?_; refine opw_yld (Yld.cmp rfl rfl rfl) rfl ?_); all_goals (refine nx_op ?_; refine opw_yld (Yld.assign rfl) rfl ?_); all_goals refine nx_nil ?_; all_goals refine kp_code_normal ?_; all_goals refine nx_ret ?_; all_goals refine kp_blk_ret ?_; all_goals refine kp_code_ret ?_; all_goals (refine res1 (by first | exact .inl rfl | exact .inr rfl) Tryd.results95 rfl [] inferInstance ⟨?_, rfl⟩; (first | (simp_all [goodB]; done) | (simp_all [goodB]; omega) | (simp_all [goodB]; intros; omega) | (simp only [decide_eq_true_eq, decide_eq_false_iff_not, beq_iff_eq, beq_eq_false_iff_ne] at *; rw [goodB, if_neg (by omega), if_neg (by omega), if_pos (by omega)]; simp; omega)))) | (all_goals refine nx_skip ?_))))))
    all_goals refine kp_blk_normal ?_
    all_goals refine kp_code_normal ?_
    all_goals refine nx_seq ?_
    all_goals refine nx_region ?_
    all_goals (refine nx_op ?_; refine opw_yld (Yld.assign rfl) rfl ?_)
    all_goals refine nx_nil ?_
    all_goals refine kp_code_normal ?_
    all_goals refine nx_ret ?_
    all_goals (refine res1 (by first | exact .inl rfl | exact .inr rfl) Tryd.results95 rfl [] inferInstance ⟨?_, rfl⟩; (first | (simp_all [goodB]; done) | (simp_all [goodB]; omega) | (simp_all [goodB]; intros; omega) | (simp only [decide_eq_true_eq, decide_eq_false_iff_not, beq_iff_eq, beq_eq_false_iff_ne] at *; rw [goodB, if_neg (by omega), if_neg (by omega), if_pos (by omega)]; simp; omega)))
  · obtain rfl : l = [] := List.eq_nil_of_length_eq_zero (by omega)
    rw [e]
    refine sp_enter Tryd.func95 rfl Tryd.ntmps95 rfl (fun g => ?_)
    simp only [argFr, List.nil_append, Nat.reduceAdd]
    all_goals refine nx_seq ?_
    all_goals refine nx_region ?_
    all_goals (refine nx_op ?_; refine opw_yld (Yld.assign rfl) rfl ?_)
    all_goals refine nx_nil ?_
    all_goals refine kp_code_normal ?_
    all_goals refine nx_seq ?_
    all_goals refine nx_seq ?_
    all_goals refine nx_region ?_
    all_goals (refine nx_op ?_; refine opw_yld (Yld.move rfl) rfl ?_)
    all_goals (refine nx_op ?_; refine opw_yld (Yld.cmp rfl rfl rfl) rfl ?_)
    all_goals (refine nx_op ?_; refine opw_yld (Yld.move rfl) rfl ?_)
    all_goals (first | refine nx_guard_n rfl (by first | rfl | assumption) rfl ?_ | refine nx_guard_u rfl rfl ?_ | ((first | refine nx_guard_y rfl (by first | rfl | assumption) ?_ | refine nx_guard rfl rfl (fun hc => ?_) (fun hc => ?_)); all_goals (first | (refine opw_yld (Yld.move rfl) rfl ?_) | skip)))
    all_goals (first | refine nx_guard_n rfl (by first | rfl | assumption) rfl ?_ | refine nx_guard_u rfl rfl ?_ | ((first | refine nx_guard_y rfl (by first | rfl | assumption) ?_ | refine nx_guard rfl rfl (fun hc => ?_) (fun hc => ?_)); all_goals (first | (refine opw_yld (Yld.cmp rfl rfl rfl) rfl ?_) | skip)))
    all_goals (refine nx_op ?_; (first | refine opw_yld (Yld.pick_t rfl (by first | rfl | assumption) rfl) rfl ?_ | refine opw_yld (Yld.pick_f rfl (by first | rfl | assumption) rfl) rfl ?_))
    all_goals (refine nx_op ?_; refine opw_yld (Yld.move rfl) rfl ?_)
    all_goals (first | refine nx_guard_n rfl (by first | rfl | assumption) rfl ?_ | refine nx_guard_u rfl rfl ?_ | ((first | refine nx_guard_y rfl (by first | rfl | assumption) ?_ | refine nx_guard rfl rfl (fun hc => ?_) (fun hc => ?_)); all_goals (first | (refine opw_yld (Yld.move rfl) rfl ?_) | skip)))
    all_goals (first | refine nx_guard_n rfl (by first | rfl | assumption) rfl ?_ | refine nx_guard_u rfl rfl ?_ | ((first | refine nx_guard_y rfl (by first | rfl | assumption) ?_ | refine nx_guard rfl rfl (fun hc => ?_) (fun hc => ?_)); all_goals (first | (refine opw_yld (Yld.lenSlice rfl) rfl ?_) | skip)))
    all_goals (first | refine nx_guard_n rfl (by first | rfl | assumption) rfl ?_ | refine nx_guard_u rfl rfl ?_ | ((first | refine nx_guard_y rfl (by first | rfl | assumption) ?_ | refine nx_guard rfl rfl (fun hc => ?_) (fun hc => ?_)); all_goals (first | (refine opw_yld (Yld.cmp rfl rfl rfl) rfl ?_) | skip)))
    all_goals (refine nx_op ?_; (first | refine opw_yld (Yld.pick_t rfl (by first | rfl | assumption) rfl) rfl ?_ | refine opw_yld (Yld.pick_f rfl (by first | rfl | assumption) rfl) rfl ?_))
    all_goals refine nx_nil ?_
    all_goals refine kp_code_normal ?_
    all_goals (refine nx_cond rfl (fun hc => ?_) (fun hc => ?_))
    all_goals (first | (exact Bool.noConfusion (hc.symm.trans (by first | rfl | assumption) : true = false)) | (exact Bool.noConfusion (hc.symm.trans (by first | rfl | assumption) : false = true)) | (all_goals refine nx_seq ?_; all_goals refine nx_region ?_; all_goals (refine nx_op ?_; refine opw_yld (Yld.assign rfl) rfl ?_); all_goals refine nx_nil ?_; all_goals refine kp_code_normal ?_; all_goals refine nx_ret ?_; all_goals refine kp_code_ret ?_; all_goals (refine res1 (by first | exact .inl rfl | exact .inr rfl) Tryd.results95 rfl [] inferInstance ⟨?_, rfl⟩; (first | (simp_all [goodB]; done) | (simp_all [goodB]; omega) | (simp_all [goodB]; intros; omega) | (simp only [decide_eq_true_eq, decide_eq_false_iff_not, beq_iff_eq, beq_eq_false_iff_ne] at *; rw [goodB, if_neg (by omega), if_neg (by omega), if_pos (by omega)]; simp; omega)))) | (all_goals refine nx_skip ?_))
    all_goals refine kp_code_normal ?_
    all_goals refine nx_seq ?_
    all_goals refine nx_seq ?_
    all_goals refine nx_region ?_
    all_goals (refine nx_op ?_; refine opw_yld (Yld.move rfl) rfl ?_)
    all_goals refine nx_nil ?_
    all_goals refine kp_code_normal ?_
    all_goals refine nx_block ?_
    all_goals refine nx_seq ?_
    all_goals refine nx_region ?_
    all_goals (refine nx_op ?_; refine opw_yld (Yld.cmp rfl rfl rfl) rfl ?_)
    all_goals (refine nx_op ?_; refine opw_yld (Yld.assign rfl) rfl ?_)
    all_goals refine nx_nil ?_
    all_goals refine kp_code_normal ?_
    all_goals (refine nx_cond rfl (fun hc => ?_) (fun hc => ?_))
    all_goals (first | (exact Bool.noConfusion (hc.symm.trans (by first | rfl | assumption) : true = false)) | (exact Bool.noConfusion (hc.symm.trans (by first | rfl | assumption) : false = true)) | (all_goals refine nx_seq ?_; all_goals refine nx_region ?_; all_goals (refine nx_op ?_; refine opw_yld (Yld.assign rfl) rfl ?_); all_goals refine nx_nil ?_; all_goals refine kp_code_normal ?_; all_goals refine nx_ret ?_; all_goals refine kp_blk_ret ?_; all_goals refine kp_code_ret ?_; all_goals (refine res1 (by first | exact .inl rfl | exact .inr rfl) Tryd.results95 rfl [] inferInstance ⟨?_, rfl⟩; (first | (simp_all [goodB]; done) | (simp_all [goodB]; omega) | (simp_all [goodB]; intros; omega) | (simp only [decide_eq_true_eq, decide_eq_false_iff_not, beq_iff_eq, beq_eq_false_iff_ne] at *; rw [goodB, if_neg (by omega), if_neg (by omega), if_pos (by omega)]; simp; omega)))) | (all_goals refine nx_seq ?_; all_goals refine nx_region ?_; all_goals (refine nx_op ?_; refine opw_yld (Yld.cmp rfl rfl rfl) rfl ?_); all_goals (refine nx_op ?_; refine opw_yld (Yld.assign rfl) rfl ?_); all_goals refine nx_nil ?_; all_goals refine kp_code_normal ?_; all_goals (refine nx_cond rfl (fun hc => ?_) (fun hc => ?_)); all_goals (first | (exact Bool.noConfusion (hc.symm.trans (by first | rfl | assumption) : true = false)) | (exact Bool.noConfusion (hc.symm.trans (by first | rfl | assumption) : false = true)) | (all_goals refine nx_seq ?_; all_goals refine nx_region ?_; all_goals (refine nx_op ?_; refine opw_yld (Yld.move rfl) rfl ?_); all_goals (refine nx_op ?_; refine opw_yld (Yld.lenSlice rfl) rfl ?_); all_goals (refine nx_op ?_; refine opw_yld (Yld.cmp rfl rfl rfl) rfl ?_); all_goals (refine nx_op ?_; refine opw_yld (Yld.move rfl) rfl ?_); all_goals (first | refine nx_guard_n rfl (by first | rfl | assumption) rfl ?_ | refine nx_guard_u rfl rfl ?_ | ((first | refine nx_guard_y rfl (by first | rfl | assumption) ?_ | refine nx_guard rfl rfl (fun hc => ?_) (fun hc => ?_)); all_goals (first | (refine opw_yld (Yld.move rfl) rfl ?_) | skip))); all_goals (first | refine nx_guard_n rfl (by first | rfl | assumption) rfl ?_ | refine nx_guard_u rfl rfl ?_ | ((first | refine nx_guard_y rfl (by first | rfl | assumption) ?_ | refine nx_guard rfl rfl (fun hc => ?_) (fun hc => ?_)); all_goals (first | (refine opw_yld (Yld.lenSlice rfl) rfl ?_) | skip))); all_goals (first | refine nx_guard_n rfl (by first | rfl | assumption) rfl ?_ | refine nx_guard_u rfl rfl ?_ | ((first | refine nx_guard_y rfl (by first | rfl | assumption) ?_ | refine nx_guard rfl rfl (fun hc => ?_) (fun hc => ?_)); all_goals (first | (refine opw_yld (Yld.cmp rfl rfl rfl) rfl ?_) | skip))); all_goals (refine nx_op ?_; (first | refine opw_yld (Yld.pick_t rfl (by first | rfl | assumption) rfl) rfl ?_ | refine opw_yld (Yld.pick_f rfl (by first | rfl | assumption) rfl) rfl ?_)); all_goals (refine nx_op ?_; refine opw_yld (Yld.move rfl) rfl ?_); all_goals (first | refine nx_guard_n rfl (by first | rfl | assumption) rfl ?_ | refine nx_guard_u rfl rfl ?_ | ((first | refine nx_guard_y rfl (by first | rfl | assumption) ?_ | refine nx_guard rfl rfl (fun hc => ?_) (fun hc => ?_)); all_goals (first | (refine opw_yld (Yld.move rfl) rfl ?_) | skip))); all_goals (first | refine nx_guard_n rfl (by first | rfl | assumption) rfl ?_ | refine nx_guard_u rfl rfl ?_ | ((first | refine nx_guard_y rfl (by first | rfl | assumption) ?_ | refine nx_guard rfl rfl (fun hc => ?_) (fun hc => ?_)); all_goals (first | ((fail)) | skip))); all_goals (first | refine nx_guard_n rfl (by first | rfl | assumption) rfl ?_ | refine nx_guard_u rfl rfl ?_ | ((first | refine nx_guard_y rfl (by first | rfl | assumption) ?_ | refine nx_guard rfl rfl (fun hc => ?_) (fun hc => ?_)); all_goals (first | (refine opw_yld (Yld.cmp rfl rfl rfl) rfl ?_) | skip))); all_goals (refine nx_op ?_; (first | refine opw_yld (Yld.pick_t rfl (by first | rfl | assumption) rfl) rfl ?_ | refine opw_yld (Yld.pick_f rfl (by first | rfl | assumption) rfl) rfl ?_)); all_goals (refine nx_op ?_; refine opw_yld (Yld.assign rfl) rfl ?_); all_goals refine nx_nil ?_; all_goals refine kp_code_normal ?_; all_goals refine nx_ret ?_; all_goals refine kp_blk_ret ?_; all_goals refine kp_code_ret ?_; all_goals (refine res1 (by first | exact .inl rfl | exact .inr rfl) Tryd.results95 rfl [] inferInstance ⟨?_, rfl⟩; (first | (simp_all [goodB]; done) | (simp_all [goodB]; omega) | (simp_all [goodB]; intros; omega) | (simp only [decide_eq_true_eq, decide_eq_false_iff_not, beq_iff_eq, beq_eq_false_iff_ne] at *; rw [goodB, if_neg (by omega), if_neg (by omega), if_pos (by omega)]; simp; omega)))) | (all_goals refine nx_seq ?_; all_goals refine nx_seq ?_; all_goals refine nx_region ?_; all_goals (refine nx_op ?_; refine opw_yld (Yld.cmp rfl rfl rfl) rfl ?_); all_goals (refine nx_op ?_; refine opw_yld (Yld.assign rfl) rfl ?_); all_goals refine nx_nil ?_; all_goals refine kp_code_normal ?_; all_goals (refine nx_cond rfl (fun hc => ?_) (fun hc => ?_)); all_goals (first | (exact Bool.noConfusion (hc.symm.trans (by first | rfl | assumption) : true = false)) | (exact Bool.noConfusion (hc.symm.trans (by first | rfl | assumption) : false = true)) | (all_goals refine nx_skip ?_) | (all_goals refine nx_seq ?_; all_goals refine nx_region ?_; all_goals (refine nx_op ?_; refine opw_yld (Yld.cmp rfl rfl rfl) rfl ?_); all_goals (refine nx_op ?_; refine opw_yld (Yld.assign rfl) rfl ?_); all_goals refine nx_nil ?_; all_goals refine kp_code_normal ?_; all_goals (refine nx_cond rfl (fun hc => ?_) (fun hc => ?_)); all_goals (first | (exact Bool.noConfusion (hc.symm.trans (by first | rfl | assumption) : true = false)) | (exact Bool.noConfusion (hc.symm.trans (by first | rfl | assumption) : false = true)) | (all_goals refine nx_skip ?_) | (all_goals refine nx_region ?_; all_goals (refine nx_op ?_; refine opw_yld (Yld.cmp rfl rfl rfl) rfl ?_); all_goals (refine nx_op ?_; refine opw_yld (Yld.assign rfl) rfl ?_); all_goals refine nx_nil ?_)))); all_goals refine kp_code_normal ?_; all_goals (refine nx_cond rfl (fun hc => ?_) (fun hc => ?_)); all_goals (first | (exact Bool.noConfusion (hc.symm.trans (by first | rfl | assumption) : true = false)) | (exact Bool.noConfusion (hc.symm.trans (by first | rfl | assumption) : false = true)) | (all_goals refine nx_seq ?_; all_goals refine nx_region ?_; all_goals (refine nx_op ?_; refine opw_yld (Yld.move rfl) rfl ?_); all_goals (refine nx_op ?_; refine opw_yld (Yld.lenSlice rfl) rfl ?_); all_goals (refine nx_op ?_; refine opw_yld (Yld.cmp rfl rfl rfl) rfl ?_); all_goals (refine nx_op ?_; refine opw_yld (Yld.assign rfl) rfl ?_); all_goals refine nx_nil ?_; all_goals refine kp_code_normal ?_; all_goals refine nx_ret ?_; all_goals refine kp_blk_ret ?_; all_goals refine kp_code_ret ?_; all_goals (refine res1 (by first | exact .inl rfl | exact .inr rfl) Tryd.results95 rfl [] inferInstance ⟨?_, rfl⟩; (first | (simp_all [goodB]; done) | (simp_all [goodB]; omega) | (simp_all [goodB]; intros; omega) | (simp only [decide_eq_true_eq, decide_eq_false_iff_not, beq_iff_eq, beq_eq_false_iff_ne] at *; rw [goodB, if_neg (by omega), if_neg (by omega), if_pos (by omega)]; simp; omega)))) | (all_goals refine nx_skip ?_))))))
    all_goals refine kp_blk_normal ?_
    all_goals refine kp_code_normal ?_
    all_goals refine nx_seq ?_
    all_goals refine nx_region ?_
    all_goals (refine nx_op ?_; refine opw_yld (Yld.assign rfl) rfl ?_)
    all_goals refine nx_nil ?_
    all_goals refine kp_code_normal ?_
    all_goals refine nx_ret ?_
    all_goals (refine res1 (by first | exact .inl rfl | exact .inr rfl) Tryd.results95 rfl [] inferInstance ⟨?_, rfl⟩; (first | (simp_all [goodB]; done) | (simp_all [goodB]; omega) | (simp_all [goodB]; intros; omega) | (simp only [decide_eq_true_eq, decide_eq_false_iff_not, beq_iff_eq, beq_eq_false_iff_ne] at *; rw [goodB, if_neg (by omega), if_neg (by omega), if_pos (by omega)]; simp; omega)))
end
end Go.Proofs.YtdobndclhbkooaaDoor
