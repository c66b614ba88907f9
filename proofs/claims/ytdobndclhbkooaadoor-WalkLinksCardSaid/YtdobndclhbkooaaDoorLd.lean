/- WalkLinks' walk. Conditions: none. -/
import Derived.Test.YtdobndclhbkooaaDoorLc
namespace Go.Proofs.YtdobndclhbkooaaDoor
open Go Go.SL
set_option maxRecDepth 100000
set_option linter.unusedVariables false

section
variable {F : Chunk}
theorem digit_u8 (n : Nat) : IntKind.u8.wrap (48 + IntKind.u8.wrap (((n % 10 : Nat) : Int))) = ((UInt8.ofNat (48 + n % 10)).toNat : Int) := by
  have h : n % 10 < 10 := Nat.mod_lt _ (by decide)
  rw [UInt8.toNat_ofNat']
  simp only [IntKind.wrap, IntKind.signed, IntKind.bits]
  simp
theorem ofBs_cat (a b : List UInt8) : ofBs a ++ ofBs b = ofBs (a ++ b) := by apply ByteArray.ext; simp [ofBs]
theorem ofBs_sz (a : List UInt8) : (ofBs a).size = a.length := rfl
theorem u64_in (m : Nat) (h : m < 18446744073709551616) : IntKind.u64.wrap (m : Int) = m := by
  simp only [IntKind.wrap, IntKind.signed, IntKind.bits]; simp; omega
theorem udecF_len : ∀ (f v : Nat) (s : List UInt8), (udecF f v s).length ≤ s.length + f
  | 0, v, s => Nat.le_refl _
  | f + 1, v, s => by
    simp only [udecF]; split
    · simp
    · have := udecF_len f (v / 10) (UInt8.ofNat (48 + v % 10) :: s); rw [List.length_cons] at this; omega
theorem decB_len (n : Nat) : (decB n).length ≤ 20 := by have := udecF_len 20 n []; simpa [decB] using this
/-- Udec. -/
theorem sp42 (n : Nat) (hn : n < 18446744073709551616) : Sp Tryd.prog 42 [.int .u64 n] F [] (fun v B => v = .string (ofBs (decB n)) ∧ B = []) := by
  refine sp_enter Tryd.func42 rfl Tryd.ntmps42 rfl (fun g => ?_)
  simp only [argFr, List.nil_append, Nat.reduceAdd]
  all_goals (refine nx_seq ?_; refine nx_region ?_; refine nx_op ?_; refine opw_yld (Yld.assign rfl) rfl ?_; refine nx_nil ?_; refine kp_code_normal ?_; refine nx_seq ?_; refine nx_region ?_; refine nx_op ?_; refine opw_yld (Yld.assign rfl) rfl ?_; refine nx_nil ?_; refine kp_code_normal ?_; refine nx_block ?_)
  refine nx_loop (fun fr L m => ∃ (v : Nat) (s : List UInt8), 1 ≤ m ∧ v < 10 ^ m ∧ v < 18446744073709551616 ∧ s.length + m ≤ 20 ∧ udecF m v s = decB n ∧ fr = [(0, .int .u64 v), (3, .string (ofBs s))] ∧ L = [F])
    (m := 20) (L' := [F]) ⟨n, [], by omega, by omega, hn, by simp, rfl, rfl, rfl⟩ (by repeat' (first | exact .nil | refine .cons rfl ?_)) inferInstance ?_
  rintro fr L m ⟨v, s, h1, h2, h3, h4, h5, rfl, rfl⟩
  obtain ⟨f, rfl⟩ : ∃ f, m = f + 1 := ⟨m - 1, by omega⟩
  have hd := digit_u8 v
  have hm : ((v : Int).tmod 10) = ((v % 10 : Nat) : Int) := by rw [Int.tmod_eq_emod_of_nonneg (by omega)]; omega
  have hq : IntKind.u64.wrap ((v : Int).tdiv 10) = ((v / 10 : Nat) : Int) := by
    rw [Int.tdiv_eq_ediv_of_nonneg (by omega), show (v : Int) / 10 = ((v / 10 : Nat) : Int) from by omega, u64_in _ (by omega)]
  generalize hc : UInt8.ofNat (48 + v % 10) = c at hd
  by_cases hz : v / 10 = 0
  · have hb : (((v / 10 : Nat) : Int) == 0) = true := by simp [hz]
    have h6 : decB n = c :: s := by rw [← h5, udecF, if_pos hz, hc]
    rw [h6]
    all_goals (refine nx_block ?_; refine nx_seq ?_; refine nx_region ?_; refine nx_op ?_; refine opw_yld (Yld.move rfl) rfl ?_)
    all_goals (refine nx_op ?_; refine opw_yld (Yld.rem rfl rfl (by decide)) rfl ?_; rw [hm])
    all_goals (refine nx_op ?_; refine opw_yld (Yld.conv rfl) rfl ?_)
    all_goals (refine nx_op ?_; refine opw_yld (Yld.add rfl rfl) rfl ?_; rw [hd])
    all_goals (refine nx_op ?_; refine opw_alc (Alc.buildSlice (cs := [.int .u8 c.toNat]) rfl (by rfl) (by rfl) (by rfl) (by rfl)) rfl (fun b8 => ?_))
    all_goals (refine nx_op ?_; refine opw_yld (Yld.bytesString (l := [c]) rfl (by rfl) rfl) rfl ?_; refine nx_op ?_; refine opw_yld (Yld.move rfl) rfl ?_)
    all_goals (refine nx_op ?_; refine opw_yld (Yld.catS rfl rfl (by simp only [ofBs_sz]; show 1 + s.length ≤ _; omega)) rfl ?_)
    all_goals (refine nx_op ?_; refine opw_yld (Yld.assign rfl) rfl ?_; refine nx_nil ?_; refine kp_code_normal ?_; refine nx_seq ?_; refine nx_region ?_; refine nx_op ?_; refine opw_yld (Yld.move rfl) rfl ?_)
    all_goals (refine nx_op ?_; refine opw_yld (Yld.quo rfl rfl (by decide)) rfl ?_; rw [hq])
    all_goals (refine nx_op ?_; refine opw_yld (Yld.assign rfl) rfl ?_; refine nx_nil ?_; refine kp_code_normal ?_; refine nx_seq ?_; refine nx_region ?_; refine nx_op ?_; refine opw_yld (Yld.move rfl) rfl ?_; refine nx_op ?_; refine opw_yld (Yld.cmp rfl rfl rfl) rfl ?_; refine nx_nil ?_; refine kp_code_normal ?_)
    all_goals (refine nx_cond rfl (fun hc => ?_) (fun hc => ?_))
    all_goals (first | (exact Bool.noConfusion (hc.symm.trans (by first | rfl | assumption) : true = false)) | (exact Bool.noConfusion (hc.symm.trans (by first | rfl | assumption) : false = true)) | (all_goals (refine nx_seq ?_; refine nx_region ?_; refine nx_op ?_; refine opw_yld (Yld.move rfl) rfl ?_; refine nx_op ?_; refine opw_yld (Yld.assign rfl) rfl ?_; refine nx_nil ?_; refine kp_code_normal ?_; refine nx_ret ?_; refine kp_blk_ret ?_; refine kp_loop_ret ?_; refine kp_blk_ret ?_); all_goals (exact res1 (by first | exact .inl rfl | exact .inr rfl) Tryd.results42 rfl [] inferInstance ⟨congrArg Value.string (ofBs_cat [c] s), rfl⟩)) | (all_goals refine nx_skip ?_))
    all_goals refine kp_blk_normal ?_
  · have hb : (((v / 10 : Nat) : Int) == 0) = false := by simp; omega
    have h6 : udecF f (v / 10) (c :: s) = decB n := by rw [← h5, udecF, if_neg hz, hc]
    have h7 : 1 ≤ f := by
      rcases Nat.eq_zero_or_pos f with h | h
      · subst h; exfalso; simp at h2; omega
      · exact h
    all_goals (refine nx_block ?_; refine nx_seq ?_; refine nx_region ?_; refine nx_op ?_; refine opw_yld (Yld.move rfl) rfl ?_)
    all_goals (refine nx_op ?_; refine opw_yld (Yld.rem rfl rfl (by decide)) rfl ?_; rw [hm])
    all_goals (refine nx_op ?_; refine opw_yld (Yld.conv rfl) rfl ?_)
    all_goals (refine nx_op ?_; refine opw_yld (Yld.add rfl rfl) rfl ?_; rw [hd])
    all_goals (refine nx_op ?_; refine opw_alc (Alc.buildSlice (cs := [.int .u8 c.toNat]) rfl (by rfl) (by rfl) (by rfl) (by rfl)) rfl (fun b8 => ?_))
    all_goals (refine nx_op ?_; refine opw_yld (Yld.bytesString (l := [c]) rfl (by rfl) rfl) rfl ?_; refine nx_op ?_; refine opw_yld (Yld.move rfl) rfl ?_)
    all_goals (refine nx_op ?_; refine opw_yld (Yld.catS rfl rfl (by simp only [ofBs_sz]; show 1 + s.length ≤ _; omega)) rfl ?_; rw [show (⟨[c].toArray⟩ : ByteArray) ++ ofBs s = ofBs (c :: s) from ofBs_cat [c] s])
    all_goals (refine nx_op ?_; refine opw_yld (Yld.assign rfl) rfl ?_; refine nx_nil ?_; refine kp_code_normal ?_; refine nx_seq ?_; refine nx_region ?_; refine nx_op ?_; refine opw_yld (Yld.move rfl) rfl ?_)
    all_goals (refine nx_op ?_; refine opw_yld (Yld.quo rfl rfl (by decide)) rfl ?_; rw [hq])
    all_goals (refine nx_op ?_; refine opw_yld (Yld.assign rfl) rfl ?_; refine nx_nil ?_; refine kp_code_normal ?_; refine nx_seq ?_; refine nx_region ?_; refine nx_op ?_; refine opw_yld (Yld.move rfl) rfl ?_; refine nx_op ?_; refine opw_yld (Yld.cmp rfl rfl rfl) rfl ?_; refine nx_nil ?_; refine kp_code_normal ?_)
    all_goals (refine nx_cond rfl (fun hc => ?_) (fun hc => ?_))
    all_goals (first | (exact Bool.noConfusion (hc.symm.trans (by first | rfl | assumption) : true = false)) | (exact Bool.noConfusion (hc.symm.trans (by first | rfl | assumption) : false = true)) | (all_goals (refine nx_seq ?_; refine nx_region ?_; refine nx_op ?_; refine opw_yld (Yld.move rfl) rfl ?_; refine nx_op ?_; refine opw_yld (Yld.assign rfl) rfl ?_; refine nx_nil ?_; refine kp_code_normal ?_; refine nx_ret ?_; refine kp_blk_ret ?_; refine kp_loop_ret ?_; refine kp_blk_ret ?_); all_goals (fail)) | (all_goals refine nx_skip ?_))
    all_goals refine kp_blk_normal ?_
    refine nx_round (m' := f) (L' := [F]) ⟨v / 10, c :: s, h7, ?_, by omega, by simp; omega, h6, rfl, rfl⟩ (by omega) (by repeat' (first | exact .nil | refine .cons rfl ?_)) inferInstance
    rw [Nat.pow_succ] at h2
    omega
/-- Dec, of what is not negative. -/
theorem sp13 (n : Nat) (hn : n < 9223372036854775808) : Sp Tryd.prog 13 [.int .i64 n] F [] (fun v B => v = .string (ofBs (decB n)) ∧ B = []) := by
  have hb : decide ((n : Int) < 0) = false := by simp
  refine sp_enter Tryd.func13 rfl Tryd.ntmps13 rfl (fun g => ?_)
  simp only [argFr, List.nil_append, Nat.reduceAdd]
  all_goals (refine nx_seq ?_; refine nx_region ?_; refine nx_op ?_; refine opw_yld (Yld.assign rfl) rfl ?_; refine nx_nil ?_; refine kp_code_normal ?_; refine nx_seq ?_; refine nx_seq ?_; refine nx_region ?_; refine nx_op ?_; refine opw_yld (Yld.move rfl) rfl ?_; refine nx_op ?_; refine opw_yld (Yld.cmp rfl rfl rfl) rfl ?_; refine nx_nil ?_; refine kp_code_normal ?_)
  all_goals (refine nx_cond rfl (fun hc => ?_) (fun hc => ?_))
  all_goals (first | (exact Bool.noConfusion (hc.symm.trans (by first | rfl | assumption) : true = false)) | (exact Bool.noConfusion (hc.symm.trans (by first | rfl | assumption) : false = true)) | (all_goals (refine nx_seq ?_; refine nx_region ?_; refine nx_op ?_; refine opw_yld (Yld.move rfl) rfl ?_); all_goals (refine nx_op ?_; (first | refine opw_yld (Yld.addI rfl rfl (by omega) (by omega)) rfl ?_ | refine opw_yld (Yld.add rfl rfl) rfl ?_)); all_goals (refine nx_op ?_; refine opw_yld (Yld.neg rfl) rfl ?_; refine nx_op ?_; refine opw_yld (Yld.conv rfl) rfl ?_; refine nx_op ?_; refine opw_yld (Yld.add rfl rfl) rfl ?_); all_goals (refine nx_op ?_; (refine opw_call rfl (sp42 n (by omega)) inferInstance rfl ?_; rintro _ _ ⟨rfl, rfl⟩; simp only [List.nil_append])); all_goals (refine nx_op ?_; refine opw_yld (Yld.catS rfl rfl (by omega)) rfl ?_; refine nx_op ?_; refine opw_yld (Yld.assign rfl) rfl ?_; refine nx_nil ?_; refine kp_code_normal ?_; refine nx_ret ?_; refine kp_code_ret ?_); all_goals (exact res1 (by first | exact .inl rfl | exact .inr rfl) Tryd.results13 rfl [] inferInstance ⟨rfl, rfl⟩)) | (all_goals refine nx_skip ?_))
  all_goals (refine kp_code_normal ?_; refine nx_seq ?_; refine nx_region ?_; refine nx_op ?_; refine opw_yld (Yld.move rfl) rfl ?_)
  all_goals (refine nx_op ?_; refine opw_yld (Yld.conv rfl) rfl ?_; rw [u64_in n (by omega)])
  all_goals (refine nx_op ?_; (refine opw_call rfl (sp42 n (by omega)) inferInstance rfl ?_; rintro _ _ ⟨rfl, rfl⟩; simp only [List.nil_append]))
  all_goals (refine nx_op ?_; refine opw_yld (Yld.assign rfl) rfl ?_; refine nx_nil ?_; refine kp_code_normal ?_; refine nx_ret ?_)
  all_goals (exact res1 (by first | exact .inl rfl | exact .inr rfl) Tryd.results13 rfl [] inferInstance ⟨rfl, rfl⟩)
end
end Go.Proofs.YtdobndclhbkooaaDoor
