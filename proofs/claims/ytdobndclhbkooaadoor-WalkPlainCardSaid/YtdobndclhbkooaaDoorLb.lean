/- WalkPlain's walk. Conditions: the bytes lie in the memory that is kept. -/
import Derived.Test.YtdobndclhbkooaaDoorLaP
namespace Go.Proofs.YtdobndclhbkooaaDoor
open Go Go.SL
set_option maxRecDepth 100000
set_option linter.unusedVariables false

def plS : Nat → List UInt8
  | 0 => [97]
  | 1 => [98]
  | _ => [99]
theorem plS_abc (k : Nat) : plS k ∈ abc := by unfold plS; split <;> decide
theorem plS_len (k : Nat) : (plS k).length = 1 := abc_len (plS_abc k)
def plPath : Nat → List UInt8
  | 0 => []
  | i + 1 => plPath i ++ 47 :: plS (i % 3)
theorem plPath_len : ∀ i, (plPath i).length = 2 * i
  | 0 => rfl
  | i + 1 => by simp [plPath, plPath_len i, plS_len]; omega
def plLvl (i k : Nat) : ItemR := ⟨ofBs (plPath i ++ 47 :: plS k), 2, 0, [], .slice none 0 0⟩
def plItems : Nat → List ItemR
  | 0 => []
  | i + 1 => plItems i ++ [plLvl i 0, plLvl i 1, plLvl i 2]
theorem plItems_len : ∀ i, (plItems i).length = 3 * i
  | 0 => rfl
  | i + 1 => by simp [plItems, plItems_len i]; omega
theorem plItems_nil : ∀ i, ∀ x ∈ plItems i, x.data = [] ∧ x.dv = .slice none 0 0
  | 0, x, h => by simp [plItems] at h
  | i + 1, x, h => by
    simp only [plItems, List.mem_append, List.mem_cons, List.not_mem_nil, or_false] at h
    rcases h with h | rfl | rfl | rfl
    · exact plItems_nil i x h
    all_goals exact ⟨rfl, rfl⟩
theorem pl_new : ∀ n, 1 ≤ n → n ≤ 5 → (newA (plItems n)).1 = 0 ∧ chkA (newA (plItems n)).2 = true ∧ inA (newA (plItems n)).2 1 = true
  | 1, _, _ => by decide
  | 2, _, _ => by decide
  | 3, _, _ => by decide
  | 4, _, _ => by decide
  | 5, _, _ => by decide
theorem ofBs_app (a b : List UInt8) : ofBs a ++ ofBs b = ofBs (a ++ b) := by
  apply ByteArray.ext; simp [ofBs]
theorem ofBs_size (a : List UInt8) : (ofBs a).size = a.length := rfl
theorem lit_app (a : List UInt8) (l : Array UInt8) : ofBs a ++ (ByteArray.mk l) = ofBs (a ++ l.toList) := by
  apply ByteArray.ext; simp [ofBs]
theorem plItems_snoc (i : Nat) : itemsV (plItems i ++ [plLvl i 0]) = itemsV (plItems i) ++ [.string (ofBs (plPath i ++ 47 :: plS 0)), .int .i64 2, .int .i64 0, .slice none 0 0] := by simp [itemsV, itemV, plLvl]
def plUpto (i k : Nat) : List ItemR := plItems i ++ (List.range k).map (plLvl i)
theorem plUpto_len (i k : Nat) : (plUpto i k).length = 3 * i + k := by simp [plUpto, plItems_len]
theorem plUpto_three (i : Nat) : plUpto i 3 = plItems (i + 1) := rfl
theorem plUpto_zero (i : Nat) : plUpto i 0 = plItems i := by simp [plUpto]
theorem plUpto_succ (i k : Nat) : itemsV (plUpto i (k + 1)) = itemsV (plUpto i k) ++ [.string (ofBs (plPath i ++ 47 :: plS k)), .int .i64 2, .int .i64 0, .slice none 0 0] := by
  simp [plUpto, List.range_succ, itemsV, itemV, plLvl]
theorem plNth (k : Nat) (h : k < 3) : NthL [.string ⟨#[97]⟩, .string ⟨#[98]⟩, .string ⟨#[99]⟩] k (.string (ofBs (plS k))) := by
  match k, h with
  | 0, _ => exact ⟨rfl⟩
  | 1, _ => exact ⟨rfl⟩
  | 2, _ => exact ⟨rfl⟩

section
variable {F : Chunk}
set_option maxHeartbeats 1000000 in
theorem sp3 (d : Int) (h0 : 0 ≤ d) (h1 : d ≤ 255) {a : Option Addr} {cap : Nat} {l : List UInt8} (hv : 0 < l.length → Ro F (.slice a l.length cap) l.length (bytesV l)) : Sp Tryd.prog 3 [.int .u8 d, .slice a l.length cap] F [] (fun v B => v = .bool true) := by
  obtain ⟨n, hn, hn1, hn5⟩ : ∃ n : Nat, d.tmod 5 = (n : Int) - 1 ∧ 1 ≤ n ∧ n ≤ 5 := ⟨(d % 5).toNat + 1, by rw [Int.tmod_eq_emod_of_nonneg h0]; omega, by omega, by omega⟩
  refine sp_enter Tryd.func3 rfl Tryd.ntmps3 rfl (fun g => ?_)
  simp only [argFr, List.nil_append, Nat.reduceAdd]
  all_goals refine nx_seq ?_
  all_goals refine nx_region ?_
  all_goals (refine nx_op ?_; refine opw_yld (Yld.assign rfl) rfl ?_)
  all_goals refine nx_nil ?_
  all_goals refine kp_code_normal ?_
  all_goals refine nx_seq ?_
  all_goals refine nx_region ?_
  all_goals (refine nx_op ?_; refine opw_alc (Alc.buildSlice (cs := [.string ⟨#[97]⟩, .string ⟨#[98]⟩, .string ⟨#[99]⟩]) rfl (by rfl) (by rfl) (by rfl) (by rfl)) rfl (fun b20 => ?_))
  all_goals (refine nx_op ?_; refine opw_yld (Yld.assign rfl) rfl ?_)
  all_goals refine nx_nil ?_
  all_goals refine kp_code_normal ?_
  all_goals refine nx_seq ?_
  all_goals refine nx_region ?_
  all_goals (refine nx_op ?_; refine opw_yld (Yld.assign rfl) rfl ?_)
  all_goals refine nx_nil ?_
  all_goals refine kp_code_normal ?_
  all_goals refine nx_seq ?_
  all_goals refine nx_region ?_
  all_goals (refine nx_op ?_; refine opw_yld (Yld.assign rfl) rfl ?_)
  all_goals refine nx_nil ?_
  all_goals refine kp_code_normal ?_
  all_goals refine nx_seq ?_
  all_goals refine nx_seq ?_
  all_goals refine nx_region ?_
  all_goals (refine nx_op ?_; refine opw_yld (Yld.assign rfl) rfl ?_)
  all_goals refine nx_nil ?_
  all_goals refine kp_code_normal ?_
  all_goals refine nx_block ?_
  refine Nx.flat [[], [(b20, .cells [.string ⟨#[97]⟩, .string ⟨#[98]⟩, .string ⟨#[99]⟩].toArray 9 (0, 0))], F] (by simp) ?_
  refine nx_loop (fun fr L m => ∃ (i : Nat) (v : Value) (c : Chunk), i ≤ n ∧ m = n - i ∧ Own 26 4 v (plItems i).length (itemsV (plItems i)) c ∧
      fr = [(0, .int .u8 d), (1, .slice a l.length cap), (5, .slice (some ⟨b20, 0, none⟩) 3 3), (6, v), (7, .string (ofBs (plPath i))), (8, .int .i64 i)] ∧ L = [c, [(b20, .cells [.string ⟨#[97]⟩, .string ⟨#[98]⟩, .string ⟨#[99]⟩].toArray 9 (0, 0))], F])
    (L' := [[], [(b20, .cells [.string ⟨#[97]⟩, .string ⟨#[98]⟩, .string ⟨#[99]⟩].toArray 9 (0, 0))], F]) ⟨0, .slice none 0 0, [], by omega, rfl, Own.nil _ _, rfl, rfl⟩ (by repeat' (first | exact .nil | refine .cons rfl ?_)) inferInstance ?_
  rintro fr L m ⟨i, v, c, hi, rfl, ho, rfl, rfl⟩
  by_cases hlt : i < n
  case pos =>
    have hb : decide ((i : Int) < (n : Int) - 1 + 1) = true := by simp; omega
    have hpp := plPath_len i
    all_goals refine nx_seq ?_
    all_goals refine nx_seq ?_
    all_goals refine nx_region ?_
    all_goals (refine nx_op ?_; refine opw_yld (Yld.move rfl) rfl ?_)
    all_goals (refine nx_op ?_; refine opw_yld (Yld.move rfl) rfl ?_)
    all_goals (refine nx_op ?_; refine opw_yld (Yld.rem rfl rfl (by decide)) rfl ?_; rw [hn])
    all_goals (refine nx_op ?_; (first | refine opw_yld (Yld.convI rfl (by omega) (by omega)) rfl ?_ | refine opw_yld (Yld.conv rfl) rfl ?_))
    all_goals (refine nx_op ?_; (first | refine opw_yld (Yld.addI rfl rfl (by omega) (by omega)) rfl ?_ | refine opw_yld (Yld.add rfl rfl) rfl ?_))
    all_goals (refine nx_op ?_; refine opw_yld (Yld.cmp rfl rfl rfl) rfl ?_)
    all_goals refine nx_nil ?_
    all_goals refine kp_code_normal ?_
    all_goals (refine nx_cond rfl (fun hc => ?_) (fun hc => ?_))
    all_goals (first | (exact Bool.noConfusion (hc.symm.trans (by first | rfl | assumption) : true = false)) | (exact Bool.noConfusion (hc.symm.trans (by first | rfl | assumption) : false = true)) | (all_goals refine nx_skip ?_) | (all_goals refine nx_exit ?_; all_goals refine kp_code_exit ?_; all_goals refine kp_loop_exit ?_; all_goals refine kp_blk_exit rfl ?_; all_goals refine kp_code_normal ?_; all_goals refine nx_seq ?_; all_goals refine nx_region ?_; all_goals (refine nx_op ?_; refine opw_yld (Yld.move rfl) rfl ?_); all_goals (refine nx_op ?_; fail "call 10: r12.1"); all_goals (refine nx_op ?_; refine opw_yld (Yld.move rfl) rfl ?_); all_goals (refine nx_op ?_; refine opw_yld (Yld.extract rfl rfl) rfl ?_); all_goals (refine nx_op ?_; refine opw_yld (Yld.extract rfl rfl) rfl ?_); all_goals (refine nx_op ?_; refine opw_yld (Yld.assign rfl) rfl ?_); all_goals (refine nx_op ?_; refine opw_yld (Yld.assign rfl) rfl ?_); all_goals refine nx_nil ?_; all_goals refine kp_code_normal ?_; all_goals refine nx_seq ?_; all_goals refine nx_seq ?_; all_goals refine nx_region ?_; all_goals (refine nx_op ?_; fail "call 11: r13.0"); all_goals (refine nx_op ?_; refine opw_yld (Yld.not rfl) rfl ?_); all_goals (refine nx_op ?_; refine opw_yld (Yld.move rfl) rfl ?_); all_goals (first | refine nx_guard_n rfl (by first | rfl | assumption) rfl ?_ | refine nx_guard_u rfl rfl ?_ | ((first | refine nx_guard_y rfl (by first | rfl | assumption) ?_ | refine nx_guard rfl rfl (fun hc => ?_) (fun hc => ?_)); all_goals (first | (refine opw_yld (Yld.move rfl) rfl ?_) | skip))); all_goals (first | refine nx_guard_n rfl (by first | rfl | assumption) rfl ?_ | refine nx_guard_u rfl rfl ?_ | ((first | refine nx_guard_y rfl (by first | rfl | assumption) ?_ | refine nx_guard rfl rfl (fun hc => ?_) (fun hc => ?_)); all_goals (first | (refine opw_yld (Yld.cmp rfl rfl rfl) rfl ?_) | skip))); all_goals (refine nx_op ?_; (first | refine opw_yld (Yld.pick_t rfl (by first | rfl | assumption) rfl) rfl ?_ | refine opw_yld (Yld.pick_f rfl (by first | rfl | assumption) rfl) rfl ?_)); all_goals refine nx_nil ?_; all_goals refine kp_code_normal ?_; all_goals (refine nx_cond rfl (fun hc => ?_) (fun hc => ?_)); all_goals (first | (exact Bool.noConfusion (hc.symm.trans (by first | rfl | assumption) : true = false)) | (exact Bool.noConfusion (hc.symm.trans (by first | rfl | assumption) : false = true)) | (all_goals refine nx_seq ?_; all_goals refine nx_region ?_; all_goals (refine nx_op ?_; refine opw_yld (Yld.assign rfl) rfl ?_); all_goals refine nx_nil ?_; all_goals refine kp_code_normal ?_; all_goals refine nx_ret ?_; all_goals refine kp_code_ret ?_) | (all_goals refine nx_skip ?_)); all_goals refine kp_code_normal ?_; all_goals refine nx_seq ?_; all_goals refine nx_region ?_; all_goals (refine nx_op ?_; refine opw_yld (Yld.assign rfl) rfl ?_); all_goals (refine nx_op ?_; refine opw_yld (Yld.assign rfl) rfl ?_); all_goals refine nx_nil ?_; all_goals refine kp_code_normal ?_; all_goals refine nx_seq ?_; all_goals refine nx_seq ?_; all_goals refine nx_region ?_; all_goals (refine nx_op ?_; refine opw_yld (Yld.assign rfl) rfl ?_); all_goals refine nx_nil ?_; all_goals refine kp_code_normal ?_; all_goals refine nx_block ?_))
    all_goals refine kp_code_normal ?_
    all_goals refine nx_seq ?_
    all_goals refine nx_block ?_
    all_goals refine nx_seq ?_
    all_goals refine nx_seq ?_
    all_goals refine nx_region ?_
    all_goals (refine nx_op ?_; refine opw_yld (Yld.assign rfl) rfl ?_)
    all_goals refine nx_nil ?_
    all_goals refine kp_code_normal ?_
    all_goals refine nx_block ?_
    rw [← plUpto_zero] at ho
    refine nx_loop (fun fr L m => ∃ (k : Nat) (v : Value) (c : Chunk), k ≤ 3 ∧ m = 3 - k ∧ Own 26 4 v (plUpto i k).length (itemsV (plUpto i k)) c ∧
        fr = [(0, .int .u8 d), (1, .slice a l.length cap), (5, .slice (some ⟨b20, 0, none⟩) 3 3), (6, v), (7, .string (ofBs (plPath i))), (8, .int .i64 i), (9, .int .i64 k)] ∧ L = [c, [(b20, .cells [.string ⟨#[97]⟩, .string ⟨#[98]⟩, .string ⟨#[99]⟩].toArray 9 (0, 0))], F])
      (L' := [c, [(b20, .cells [.string ⟨#[97]⟩, .string ⟨#[98]⟩, .string ⟨#[99]⟩].toArray 9 (0, 0))], F]) ⟨0, v, c, by omega, rfl, ho, rfl, rfl⟩ (by repeat' (first | exact .nil | refine .cons rfl ?_)) inferInstance ?_
    rintro fr L m ⟨k, v2, c2, hk, rfl, ho2, rfl, rfl⟩
    have hul := plUpto_len i k
    by_cases hk3 : k < 3
    · have hb2 : decide ((k : Int) < 3) = true := by simp; omega
      have hnk := plNth k hk3
      have hsl := plS_len k
      all_goals refine nx_seq ?_
      all_goals refine nx_seq ?_
      all_goals refine nx_region ?_
      all_goals (refine nx_op ?_; refine opw_yld (Yld.move rfl) rfl ?_)
      all_goals (refine nx_op ?_; refine opw_yld (Yld.cmp rfl rfl rfl) rfl ?_)
      all_goals refine nx_nil ?_
      all_goals refine kp_code_normal ?_
      all_goals (refine nx_cond rfl (fun hc => ?_) (fun hc => ?_))
      all_goals (first | (exact Bool.noConfusion (hc.symm.trans (by first | rfl | assumption) : true = false)) | (exact Bool.noConfusion (hc.symm.trans (by first | rfl | assumption) : false = true)) | (all_goals refine nx_skip ?_) | (all_goals refine nx_exit ?_; all_goals refine kp_code_exit ?_; all_goals refine kp_loop_exit ?_; all_goals refine kp_blk_exit rfl ?_; all_goals refine kp_code_normal ?_; all_goals refine nx_region ?_; all_goals (refine nx_op ?_; refine opw_yld (Yld.move rfl) rfl ?_); all_goals (refine nx_op ?_; refine opw_yld (Yld.catS rfl rfl (by omega)) rfl ?_); all_goals (refine nx_op ?_; refine opw_yld (Yld.move rfl) rfl ?_); all_goals (refine nx_op ?_; refine opw_yld (Yld.move rfl) rfl ?_); all_goals (refine nx_op ?_; refine opw_yld (Yld.rem rfl rfl (by decide)) rfl ?_); all_goals (refine nx_op ?_; refine opw_yld (Yld.indexAddr rfl rfl (by omega)) rfl ?_); all_goals (refine nx_op ?_; refine opw_yld (Yld.load rfl) rfl ?_); all_goals (refine nx_op ?_; refine opw_yld (Yld.catS rfl rfl (by omega)) rfl ?_); all_goals (refine nx_op ?_; refine opw_yld (Yld.assign rfl) rfl ?_); all_goals refine nx_nil ?_; all_goals refine kp_blk_normal ?_; all_goals refine kp_code_normal ?_; all_goals refine nx_region ?_; all_goals (refine nx_op ?_; refine opw_yld (Yld.move rfl) rfl ?_); all_goals (refine nx_op ?_; (first | refine opw_yld (Yld.addI rfl rfl (by omega) (by omega)) rfl ?_ | refine opw_yld (Yld.add rfl rfl) rfl ?_)); all_goals (refine nx_op ?_; refine opw_yld (Yld.assign rfl) rfl ?_); all_goals refine nx_nil ?_))
      all_goals refine kp_code_normal ?_
      all_goals refine nx_seq ?_
      all_goals refine nx_block ?_
      all_goals refine nx_region ?_
      all_goals (refine nx_op ?_; refine opw_yld (Yld.move rfl) rfl ?_)
      all_goals (refine nx_op ?_; refine opw_yld (Yld.move rfl) rfl ?_)
      all_goals (refine nx_op ?_; refine opw_yld (Yld.catS rfl rfl (by have q1 : (ByteArray.mk #[47]).size = 1 := rfl; have q2 : (ByteArray.mk #[46, 47]).size = 2 := rfl; have q3 : (ByteArray.mk #[47, 47]).size = 2 := rfl; have q4 : (ByteArray.mk #[46, 46, 47]).size = 3 := rfl; have q5 : (ByteArray.mk #[47, 46, 47]).size = 3 := rfl; have q6 : (ByteArray.mk #[46]).size = 1 := rfl; simp only [ByteArray.size_append, ofBs_size, q1, q2, q3, q4, q5, q6]; omega)) rfl ?_)
      all_goals (refine nx_op ?_; refine opw_yld (Yld.move rfl) rfl ?_)
      all_goals (refine nx_op ?_; refine opw_yld (Yld.move rfl) rfl ?_)
      all_goals (refine nx_op ?_; refine opw_yld (Yld.indexAddr rfl rfl (by omega)) rfl ?_)
      all_goals (refine nx_op ?_; refine opw_yld (Yld.load rfl) rfl ?_)
      all_goals (refine nx_op ?_; refine opw_yld (Yld.catS rfl rfl (by have q1 : (ByteArray.mk #[47]).size = 1 := rfl; have q2 : (ByteArray.mk #[46, 47]).size = 2 := rfl; have q3 : (ByteArray.mk #[47, 47]).size = 2 := rfl; have q4 : (ByteArray.mk #[46, 46, 47]).size = 3 := rfl; have q5 : (ByteArray.mk #[47, 46, 47]).size = 3 := rfl; have q6 : (ByteArray.mk #[46]).size = 1 := rfl; simp only [ByteArray.size_append, ofBs_size, q1, q2, q3, q4, q5, q6]; omega)) rfl ?_; rw [lit_app, ofBs_app, List.append_assoc])
      all_goals (refine nx_op ?_; refine opw_yld (Yld.build (cs := [.string (ofBs (plPath i ++ ([47] ++ plS k))), .int .i64 2, .int .i64 0, .slice none 0 0]) rfl rfl) rfl ?_)
      all_goals (refine nx_op ?_; refine opw_alc (Alc.buildSlice rfl (by rfl) (by rfl) (by rfl) (by rfl)) rfl (fun b42 => ?_))
      all_goals (refine nx_op ?_; refine opw_append (e := 26) (sz := 4) (by' := 56) (z := [.string ⟨#[]⟩, .int .i64 0, .int .i64 0, .slice none 0 0]) (m := (plUpto i k).length) (k := 1) (ys := [.string (ofBs (plPath i ++ ([47] ++ plS k))), .int .i64 2, .int .i64 0, .slice none 0 0]) (c := c2) rfl rfl rfl ho2 inferInstance rfl rfl (by simp [Value.oneCell']) (by omega) (by omega) rfl ?_; intro v3 c3 ho3 hn3)
      all_goals (refine nx_op ?_; refine opw_yld (Yld.assign rfl) rfl ?_)
      all_goals refine nx_nil ?_
      all_goals refine kp_blk_normal ?_
      all_goals refine kp_code_normal ?_
      all_goals refine nx_region ?_
      all_goals (refine nx_op ?_; refine opw_yld (Yld.move rfl) rfl ?_)
      all_goals (refine nx_op ?_; refine opw_yld (Yld.addI rfl rfl (by omega) (by omega)) rfl ?_)
      all_goals (refine nx_op ?_; refine opw_yld (Yld.assign rfl) rfl ?_)
      all_goals refine nx_nil ?_
      have ho4 : Own 26 4 v3 (plUpto i (k + 1)).length (itemsV (plUpto i (k + 1))) c3 := by
        rw [plUpto_succ, show (plUpto i (k + 1)).length = (plUpto i k).length + 1 from by rw [plUpto_len, plUpto_len]; omega]
        exact ho3
      refine nx_round (m' := 3 - (k + 1)) (L' := [c3, [(b20, .cells [.string ⟨#[97]⟩, .string ⟨#[98]⟩, .string ⟨#[99]⟩].toArray 9 (0, 0))], F]) ⟨k + 1, v3, c3, by omega, rfl, ho4, rfl, rfl⟩ (by omega) (by repeat' (first | exact .nil | refine .cons rfl ?_)) inferInstance
    · obtain rfl : k = 3 := by omega
      have hb2 : decide (((3 : Nat) : Int) < 3) = false := by decide
      have hm3 : ((i : Int).tmod 3) = ((i % 3 : Nat) : Int) := by rw [Int.tmod_eq_emod_of_nonneg (by omega)]; omega
      have hnk := plNth (i % 3) (by omega)
      have hsl := plS_len (i % 3)
      rw [plUpto_three] at ho2
      all_goals refine nx_seq ?_
      all_goals refine nx_seq ?_
      all_goals refine nx_region ?_
      all_goals (refine nx_op ?_; refine opw_yld (Yld.move rfl) rfl ?_)
      all_goals (refine nx_op ?_; refine opw_yld (Yld.cmp rfl rfl rfl) rfl ?_)
      all_goals refine nx_nil ?_
      all_goals refine kp_code_normal ?_
      all_goals (refine nx_cond rfl (fun hc => ?_) (fun hc => ?_))
      all_goals (first | (exact Bool.noConfusion (hc.symm.trans (by first | rfl | assumption) : true = false)) | (exact Bool.noConfusion (hc.symm.trans (by first | rfl | assumption) : false = true)) | (all_goals refine nx_skip ?_) | (all_goals refine nx_exit ?_; all_goals refine kp_code_exit ?_; all_goals refine kp_loop_exit ?_; all_goals refine kp_blk_exit rfl ?_; all_goals refine kp_code_normal ?_; all_goals refine nx_region ?_; all_goals (refine nx_op ?_; refine opw_yld (Yld.move rfl) rfl ?_); all_goals (refine nx_op ?_; refine opw_yld (Yld.catS rfl rfl (by have q1 : (ByteArray.mk #[47]).size = 1 := rfl; have q2 : (ByteArray.mk #[46, 47]).size = 2 := rfl; have q3 : (ByteArray.mk #[47, 47]).size = 2 := rfl; have q4 : (ByteArray.mk #[46, 46, 47]).size = 3 := rfl; have q5 : (ByteArray.mk #[47, 46, 47]).size = 3 := rfl; have q6 : (ByteArray.mk #[46]).size = 1 := rfl; simp only [ByteArray.size_append, ofBs_size, q1, q2, q3, q4, q5, q6]; omega)) rfl ?_); all_goals (refine nx_op ?_; refine opw_yld (Yld.move rfl) rfl ?_); all_goals (refine nx_op ?_; refine opw_yld (Yld.move rfl) rfl ?_); all_goals (refine nx_op ?_; refine opw_yld (Yld.rem rfl rfl (by decide)) rfl ?_; rw [hm3]); all_goals (refine nx_op ?_; refine opw_yld (Yld.indexAddr rfl rfl (by omega)) rfl ?_); all_goals (refine nx_op ?_; refine opw_yld (Yld.load rfl) rfl ?_); all_goals (refine nx_op ?_; refine opw_yld (Yld.catS rfl rfl (by have q1 : (ByteArray.mk #[47]).size = 1 := rfl; have q2 : (ByteArray.mk #[46, 47]).size = 2 := rfl; have q3 : (ByteArray.mk #[47, 47]).size = 2 := rfl; have q4 : (ByteArray.mk #[46, 46, 47]).size = 3 := rfl; have q5 : (ByteArray.mk #[47, 46, 47]).size = 3 := rfl; have q6 : (ByteArray.mk #[46]).size = 1 := rfl; simp only [ByteArray.size_append, ofBs_size, q1, q2, q3, q4, q5, q6]; omega)) rfl ?_; rw [lit_app, ofBs_app, List.append_assoc]); all_goals (refine nx_op ?_; refine opw_yld (Yld.assign rfl) rfl ?_); all_goals refine nx_nil ?_; all_goals refine kp_blk_normal ?_; all_goals refine kp_code_normal ?_; all_goals refine nx_region ?_; all_goals (refine nx_op ?_; refine opw_yld (Yld.move rfl) rfl ?_); all_goals (refine nx_op ?_; refine opw_yld (Yld.addI rfl rfl (by omega) (by omega)) rfl ?_); all_goals (refine nx_op ?_; refine opw_yld (Yld.assign rfl) rfl ?_); all_goals refine nx_nil ?_; all_goals (exact nx_round (m' := n - (i + 1)) (L' := [c2, [(b20, .cells [.string ⟨#[97]⟩, .string ⟨#[98]⟩, .string ⟨#[99]⟩].toArray 9 (0, 0))], F]) ⟨i + 1, v2, c2, by omega, rfl, ho2, rfl, rfl⟩ (by omega) (by repeat' (first | exact .nil | refine .cons rfl ?_)) inferInstance)))
      all_goals refine kp_code_normal ?_
      all_goals refine nx_seq ?_
      all_goals refine nx_block ?_
      all_goals refine nx_region ?_
      all_goals (refine nx_op ?_; refine opw_yld (Yld.move rfl) rfl ?_)
      all_goals (refine nx_op ?_; refine opw_yld (Yld.move rfl) rfl ?_)
      all_goals (refine nx_op ?_; refine opw_yld (Yld.catS rfl rfl (by omega)) rfl ?_)
      all_goals (refine nx_op ?_; refine opw_yld (Yld.move rfl) rfl ?_)
      all_goals (refine nx_op ?_; refine opw_yld (Yld.move rfl) rfl ?_)
      all_goals (refine nx_op ?_; refine opw_yld (Yld.indexAddr rfl rfl (by omega)) rfl ?_)
      all_goals (refine nx_op ?_; refine opw_yld (Yld.load rfl) rfl ?_)
      all_goals (refine nx_op ?_; refine opw_yld (Yld.catS rfl rfl (by omega)) rfl ?_)
      all_goals (refine nx_op ?_; refine opw_yld (Yld.build rfl rfl) rfl ?_)
      all_goals (refine nx_op ?_; refine opw_alc (Alc.buildSlice rfl (by rfl) (by rfl) (by rfl) (by rfl)) rfl (fun b42 => ?_))
      all_goals (refine nx_op ?_; fail "builtin append: r10.10")
      all_goals (refine nx_op ?_; refine opw_yld (Yld.assign rfl) rfl ?_)
      all_goals refine nx_nil ?_
      all_goals refine kp_blk_normal ?_
      all_goals refine kp_code_normal ?_
      all_goals refine nx_region ?_
      all_goals (refine nx_op ?_; refine opw_yld (Yld.move rfl) rfl ?_)
      all_goals (refine nx_op ?_; (first | refine opw_yld (Yld.addI rfl rfl (by omega) (by omega)) rfl ?_ | refine opw_yld (Yld.add rfl rfl) rfl ?_))
      all_goals (refine nx_op ?_; refine opw_yld (Yld.assign rfl) rfl ?_)
      all_goals refine nx_nil ?_
      all_goals (exact nx_round (m' := n - (i + 1)) (L' := [c2, [(b20, .cells [.string ⟨#[97]⟩, .string ⟨#[98]⟩, .string ⟨#[99]⟩].toArray 9 (0, 0))], F]) ⟨i + 1, v2, c2, by omega, rfl, ho2, rfl, rfl⟩ (by omega) (by repeat' (first | exact .nil | refine .cons rfl ?_)) inferInstance)
  obtain rfl : i = n := by omega
  have hb : decide ((i : Int) < (i : Int) - 1 + 1) = false := by rw [decide_eq_false_iff_not]; omega
  obtain ⟨hne, hch, hin⟩ := pl_new i hn1 hn5
  have hul := plItems_len i
  all_goals refine nx_seq ?_
  all_goals refine nx_seq ?_
  all_goals refine nx_region ?_
  all_goals (refine nx_op ?_; refine opw_yld (Yld.move rfl) rfl ?_)
  all_goals (refine nx_op ?_; refine opw_yld (Yld.move rfl) rfl ?_)
  all_goals (refine nx_op ?_; refine opw_yld (Yld.rem rfl rfl (by decide)) rfl ?_; rw [hn])
  all_goals (refine nx_op ?_; (first | refine opw_yld (Yld.convI rfl (by omega) (by omega)) rfl ?_ | refine opw_yld (Yld.conv rfl) rfl ?_))
  all_goals (refine nx_op ?_; (first | refine opw_yld (Yld.addI rfl rfl (by omega) (by omega)) rfl ?_ | refine opw_yld (Yld.add rfl rfl) rfl ?_))
  all_goals (refine nx_op ?_; refine opw_yld (Yld.cmp rfl rfl rfl) rfl ?_)
  all_goals refine nx_nil ?_
  all_goals refine kp_code_normal ?_
  all_goals (refine nx_cond rfl (fun hc => ?_) (fun hc => ?_))
  all_goals (first | (exact Bool.noConfusion (hc.symm.trans (by first | rfl | assumption) : true = false)) | (exact Bool.noConfusion (hc.symm.trans (by first | rfl | assumption) : false = true)) | (all_goals refine nx_skip ?_) | (all_goals refine nx_exit ?_; all_goals refine kp_code_exit ?_; all_goals refine kp_loop_exit ?_; all_goals refine kp_blk_exit rfl ?_; all_goals refine kp_code_normal ?_; all_goals refine nx_seq ?_; all_goals refine nx_region ?_; all_goals (refine nx_op ?_; refine opw_yld (Yld.move rfl) rfl ?_); all_goals (refine nx_op ?_; (refine opw_call rfl (sp10 (l := plItems i) (Own_ro ho (by decide) (by simp +contextual)) (fun x hx => by obtain ⟨e1, e2⟩ := plItems_nil i x hx; rw [e1, e2]; exact ItemR_ro _) (by omega)) inferInstance rfl ?_; rintro _ B (⟨ha, _⟩ | ⟨_, T, hT, hN, hA, rfl, rfl⟩); (exact absurd hne ha); simp only [List.cons_append, List.nil_append])); all_goals (refine nx_op ?_; refine opw_yld (Yld.move rfl) rfl ?_); all_goals (refine nx_op ?_; refine opw_yld (Yld.extract rfl rfl) rfl ?_); all_goals (refine nx_op ?_; refine opw_yld (Yld.extract rfl rfl) rfl ?_); all_goals (refine nx_op ?_; refine opw_yld (Yld.assign rfl) rfl ?_); all_goals (refine nx_op ?_; refine opw_yld (Yld.assign rfl) rfl ?_); all_goals refine nx_nil ?_; all_goals refine kp_code_normal ?_; all_goals refine nx_seq ?_; all_goals refine nx_seq ?_; all_goals refine nx_region ?_; all_goals (refine nx_op ?_; (refine opw_call rfl (sp11 _) inferInstance rfl ?_; rintro _ _ ⟨rfl, rfl⟩; simp only [List.nil_append])); all_goals (refine nx_op ?_; refine opw_yld (Yld.not rfl) rfl ?_); all_goals (refine nx_op ?_; refine opw_yld (Yld.move rfl) rfl ?_); all_goals (first | refine nx_guard_n rfl (by first | rfl | assumption) rfl ?_ | refine nx_guard_u rfl rfl ?_ | ((first | refine nx_guard_y rfl (by first | rfl | assumption) ?_ | refine nx_guard rfl rfl (fun hc => ?_) (fun hc => ?_)); all_goals (first | (refine opw_yld (Yld.move rfl) rfl ?_) | skip))); all_goals (first | refine nx_guard_n rfl (by first | rfl | assumption) rfl ?_ | refine nx_guard_u rfl rfl ?_ | ((first | refine nx_guard_y rfl (by first | rfl | assumption) ?_ | refine nx_guard rfl rfl (fun hc => ?_) (fun hc => ?_)); all_goals (first | (refine opw_yld (Yld.cmp rfl rfl rfl) rfl ?_) | skip))); all_goals (refine nx_op ?_; (first | refine opw_yld (Yld.pick_t rfl (by first | rfl | assumption) rfl) rfl ?_ | refine opw_yld (Yld.pick_f rfl (by first | rfl | assumption) rfl) rfl ?_)); all_goals refine nx_nil ?_; all_goals refine kp_code_normal ?_; all_goals (refine nx_cond rfl (fun hc => ?_) (fun hc => ?_)); all_goals (first | (exact Bool.noConfusion (hc.symm.trans (by first | rfl | assumption) : true = false)) | (exact Bool.noConfusion (hc.symm.trans (by first | rfl | assumption) : false = true)) | (all_goals refine nx_seq ?_; all_goals refine nx_region ?_; all_goals (refine nx_op ?_; refine opw_yld (Yld.assign rfl) rfl ?_); all_goals refine nx_nil ?_; all_goals refine kp_code_normal ?_; all_goals refine nx_ret ?_; all_goals refine kp_code_ret ?_) | (all_goals refine nx_skip ?_)); all_goals refine kp_code_normal ?_; all_goals refine nx_seq ?_; all_goals refine nx_region ?_; all_goals (refine nx_op ?_; refine opw_yld (Yld.assign rfl) rfl ?_); all_goals (refine nx_op ?_; refine opw_yld (Yld.assign rfl) rfl ?_); all_goals refine nx_nil ?_; all_goals refine kp_code_normal ?_; all_goals refine nx_seq ?_; all_goals refine nx_seq ?_; all_goals refine nx_region ?_; all_goals (refine nx_op ?_; refine opw_yld (Yld.assign rfl) rfl ?_); all_goals refine nx_nil ?_; all_goals refine kp_code_normal ?_; all_goals refine nx_block ?_))
  generalize (newA (plItems i)).2 = A at hch hin hA
  refine nx_loop (fun fr L m => ∃ (j : Nat) (ns : List (List UInt8)), ns.length = j ∧ j ≤ 8 ∧ j ≤ l.length ∧ m = 8 - j ∧ (∀ s ∈ ns, s ∈ abc) ∧
      fr = [(1, .slice a l.length cap), (5, .slice (some ⟨b20, 0, none⟩) 3 3), (10, .pointer (some ⟨T.t, 0, none⟩)), (12, .string (ofBs (plainB ns))), (13, .string (ofBs (longB ns))), (14, .int .i64 j)] ∧ L = [T.chunk, [(b20, .cells [.string ⟨#[97]⟩, .string ⟨#[98]⟩, .string ⟨#[99]⟩].toArray 9 (0, 0))], F])
    (L' := [T.chunk, [(b20, .cells [.string ⟨#[97]⟩, .string ⟨#[98]⟩, .string ⟨#[99]⟩].toArray 9 (0, 0))], F]) ⟨0, [], rfl, by omega, by omega, rfl, by simp, rfl, rfl⟩ (by repeat' (first | exact .nil | refine .cons rfl ?_)) inferInstance ?_
  rintro fr L m ⟨j, ns, hj, hj8, hjl, rfl, hns, rfl, rfl⟩
  have hpl := plain_len ns hns
  have hll := long_len ns hns
  have hpl2 : (plainB ns).length = 2 * ns.length + 1 := by simp only [plainB, List.length_cons]; omega
  have hll2 : (longB ns).length = 12 * ns.length + 1 := by simp only [longB, List.length_cons]; omega
  by_cases hlt2 : j < l.length ∧ j < 8
  case pos =>
    obtain ⟨hl1, hl2⟩ := hlt2
    have hb1 : decide ((j : Int) < (l.length : Int)) = true := by simp; omega
    have hb2 : decide ((j : Int) < 8) = true := by simp; omega
    rcases hv (by omega) with ⟨h5, h6, h7⟩ | ⟨b, o, cap', cs, et, z, h5, hcap, hm, hcs⟩
    · omega
    cases h5
    have i1 : InC b (.cells cs.toArray et z) F := ⟨hm⟩
    have hn1 : NthL cs (o + j) (.int .u8 l[j].toNat) := ⟨by
      have h8 := congrArg (fun q => q[j]?) hcs
      simp only [List.getElem?_take, bytesV_length, hl1, if_true, List.getElem?_drop] at h8
      rw [h8]; simp [bytesV, List.getElem?_eq_getElem hl1]⟩
    have hto : ToN (((l[j].toNat : Nat) : Int).tmod 3) (l[j].toNat % 3) := ⟨by rw [Int.tmod_eq_emod_of_nonneg (by omega)]; first | done | omega⟩
    have hnk := plNth (l[j].toNat % 3) (by omega)
    have hsl := plS_len (l[j].toNat % 3)
    have hab := plS_abc (l[j].toNat % 3)
    have hrl : ((l[j].toNat : Nat) : Int).tmod 3 < 3 := by rw [Int.tmod_eq_emod_of_nonneg (by omega)]; omega
    generalize plS (l[j].toNat % 3) = s at hnk hsl hab
    all_goals refine nx_seq ?_
    all_goals refine nx_seq ?_
    all_goals refine nx_region ?_
    all_goals (refine nx_op ?_; refine opw_yld (Yld.move rfl) rfl ?_)
    all_goals (refine nx_op ?_; refine opw_yld (Yld.move rfl) rfl ?_)
    all_goals (refine nx_op ?_; refine opw_yld (Yld.lenSlice rfl) rfl ?_)
    all_goals (refine nx_op ?_; refine opw_yld (Yld.cmp rfl rfl rfl) rfl ?_)
    all_goals (refine nx_op ?_; refine opw_yld (Yld.move rfl) rfl ?_)
    all_goals (first | refine nx_guard_n rfl (by first | rfl | assumption) rfl ?_ | refine nx_guard_u rfl rfl ?_ | ((first | refine nx_guard_y rfl (by first | rfl | assumption) ?_ | refine nx_guard rfl rfl (fun hc => ?_) (fun hc => ?_)); all_goals (first | (refine opw_yld (Yld.move rfl) rfl ?_) | skip)))
    all_goals (first | refine nx_guard_n rfl (by first | rfl | assumption) rfl ?_ | refine nx_guard_u rfl rfl ?_ | ((first | refine nx_guard_y rfl (by first | rfl | assumption) ?_ | refine nx_guard rfl rfl (fun hc => ?_) (fun hc => ?_)); all_goals (first | (refine opw_yld (Yld.cmp rfl rfl rfl) rfl ?_) | skip)))
    all_goals (refine nx_op ?_; (first | refine opw_yld (Yld.pick_t rfl (by first | rfl | assumption) rfl) rfl ?_ | refine opw_yld (Yld.pick_f rfl (by first | rfl | assumption) rfl) rfl ?_))
    all_goals refine nx_nil ?_
    all_goals refine kp_code_normal ?_
    all_goals (refine nx_cond rfl (fun hc => ?_) (fun hc => ?_))
    all_goals (first | (exact Bool.noConfusion (hc.symm.trans (by first | rfl | assumption) : true = false)) | (exact Bool.noConfusion (hc.symm.trans (by first | rfl | assumption) : false = true)) | (all_goals refine nx_skip ?_) | (all_goals refine nx_exit ?_; all_goals refine kp_code_exit ?_; all_goals refine kp_loop_exit ?_; all_goals refine kp_blk_exit rfl ?_; all_goals refine kp_code_normal ?_; all_goals refine nx_seq ?_; all_goals refine nx_region ?_; all_goals (refine nx_op ?_; refine opw_yld (Yld.move rfl) rfl ?_); all_goals (refine nx_op ?_; refine opw_yld (Yld.move rfl) rfl ?_); all_goals (refine nx_op ?_; refine opw_yld (Yld.catS rfl rfl (by omega)) rfl ?_); all_goals (refine nx_op ?_; (fail)); all_goals (refine nx_op ?_; refine opw_yld (Yld.move rfl) rfl ?_); all_goals (refine nx_op ?_; refine opw_yld (Yld.extract rfl rfl) rfl ?_); all_goals (refine nx_op ?_; refine opw_yld (Yld.extract rfl rfl) rfl ?_); all_goals (refine nx_op ?_; refine opw_alc Alc.alloc rfl (fun b16 => ?_)); all_goals (refine nx_op ?_; refine opw_storeAgg rfl rfl rfl (by simp [Value.oneCell']) ?_); all_goals (refine nx_op ?_; refine opw_yld (Yld.assign rfl) rfl ?_); all_goals refine nx_nil ?_; all_goals refine kp_code_normal ?_; all_goals refine nx_seq ?_; all_goals refine nx_region ?_; all_goals (refine nx_op ?_; refine opw_yld (Yld.move rfl) rfl ?_); all_goals (refine nx_op ?_; refine opw_yld (Yld.move rfl) rfl ?_); all_goals (refine nx_op ?_; refine opw_yld (Yld.catS rfl rfl (by omega)) rfl ?_); all_goals (refine nx_op ?_; (fail)); all_goals (refine nx_op ?_; refine opw_yld (Yld.move rfl) rfl ?_); all_goals (refine nx_op ?_; refine opw_yld (Yld.extract rfl rfl) rfl ?_); all_goals (refine nx_op ?_; refine opw_yld (Yld.extract rfl rfl) rfl ?_); all_goals (refine nx_op ?_; refine opw_alc Alc.alloc rfl (fun b18 => ?_)); all_goals (refine nx_op ?_; refine opw_storeAgg rfl rfl rfl (by simp [Value.oneCell']) ?_); all_goals (refine nx_op ?_; refine opw_yld (Yld.assign rfl) rfl ?_); all_goals refine nx_nil ?_; all_goals refine kp_code_normal ?_; all_goals refine nx_seq ?_; all_goals refine nx_region ?_; all_goals (refine nx_op ?_; refine opw_yld (Yld.fieldAddr rfl) rfl ?_); all_goals (refine nx_op ?_; refine opw_yld (Yld.load rfl) rfl ?_); all_goals (refine nx_op ?_; refine opw_yld (Yld.fieldAddr rfl) rfl ?_); all_goals (refine nx_op ?_; refine opw_yld (Yld.load rfl) rfl ?_); all_goals (refine nx_op ?_; refine opw_yld (Yld.cmp rfl rfl rfl) rfl ?_); all_goals (refine nx_op ?_; refine opw_yld (Yld.move rfl) rfl ?_); all_goals (first | refine nx_guard_n rfl (by first | rfl | assumption) rfl ?_ | refine nx_guard_u rfl rfl ?_ | ((first | refine nx_guard_y rfl (by first | rfl | assumption) ?_ | refine nx_guard rfl rfl (fun hc => ?_) (fun hc => ?_)); all_goals (first | (refine opw_yld (Yld.move rfl) rfl ?_) | skip))); all_goals (first | refine nx_guard_n rfl (by first | rfl | assumption) rfl ?_ | refine nx_guard_u rfl rfl ?_ | ((first | refine nx_guard_y rfl (by first | rfl | assumption) ?_ | refine nx_guard rfl rfl (fun hc => ?_) (fun hc => ?_)); all_goals (first | (refine opw_yld (Yld.move rfl) rfl ?_) | skip))); all_goals (first | refine nx_guard_n rfl (by first | rfl | assumption) rfl ?_ | refine nx_guard_u rfl rfl ?_ | ((first | refine nx_guard_y rfl (by first | rfl | assumption) ?_ | refine nx_guard rfl rfl (fun hc => ?_) (fun hc => ?_)); all_goals (first | (refine opw_yld (Yld.cmp rfl rfl rfl) rfl ?_) | skip))); all_goals (refine nx_op ?_; (first | refine opw_yld (Yld.pick_t rfl (by first | rfl | assumption) rfl) rfl ?_ | refine opw_yld (Yld.pick_f rfl (by first | rfl | assumption) rfl) rfl ?_)); all_goals (refine nx_op ?_; refine opw_yld (Yld.assign rfl) rfl ?_); all_goals refine nx_nil ?_; all_goals refine kp_code_normal ?_; all_goals refine nx_ret ?_; all_goals (fail)))
    all_goals refine kp_code_normal ?_
    all_goals refine nx_seq ?_
    all_goals refine nx_block ?_
    all_goals refine nx_seq ?_
    all_goals refine nx_region ?_
    all_goals (refine nx_op ?_; refine opw_yld (Yld.move rfl) rfl ?_)
    all_goals (refine nx_op ?_; refine opw_yld (Yld.move rfl) rfl ?_)
    all_goals (refine nx_op ?_; refine opw_yld (Yld.move rfl) rfl ?_)
    all_goals (refine nx_op ?_; refine opw_yld (Yld.indexAddr rfl rfl (by omega)) rfl ?_)
    all_goals (refine nx_op ?_; refine opw_yld (Yld.load rfl) rfl ?_)
    all_goals (refine nx_op ?_; refine opw_yld (Yld.rem rfl rfl (by decide)) rfl ?_)
    all_goals (refine nx_op ?_; refine opw_yld (Yld.indexAddr rfl rfl hrl) rfl ?_)
    all_goals (refine nx_op ?_; refine opw_yld (Yld.load rfl) rfl ?_)
    all_goals (refine nx_op ?_; refine opw_yld (Yld.assign rfl) rfl ?_)
    all_goals refine nx_nil ?_
    all_goals refine kp_code_normal ?_
    all_goals refine nx_seq ?_
    all_goals refine nx_region ?_
    all_goals (refine nx_op ?_; refine opw_yld (Yld.move rfl) rfl ?_)
    all_goals (refine nx_op ?_; refine opw_yld (Yld.move rfl) rfl ?_)
    all_goals (refine nx_op ?_; refine opw_yld (Yld.catS rfl rfl (by have q1 : (ByteArray.mk #[47]).size = 1 := rfl; have q2 : (ByteArray.mk #[46, 47]).size = 2 := rfl; have q3 : (ByteArray.mk #[47, 47]).size = 2 := rfl; have q4 : (ByteArray.mk #[46, 46, 47]).size = 3 := rfl; have q5 : (ByteArray.mk #[47, 46, 47]).size = 3 := rfl; have q6 : (ByteArray.mk #[46]).size = 1 := rfl; simp only [ByteArray.size_append, ofBs_size, q1, q2, q3, q4, q5, q6]; omega)) rfl ?_)
    all_goals (refine nx_op ?_; refine opw_yld (Yld.catS rfl rfl (by have q1 : (ByteArray.mk #[47]).size = 1 := rfl; have q2 : (ByteArray.mk #[46, 47]).size = 2 := rfl; have q3 : (ByteArray.mk #[47, 47]).size = 2 := rfl; have q4 : (ByteArray.mk #[46, 46, 47]).size = 3 := rfl; have q5 : (ByteArray.mk #[47, 46, 47]).size = 3 := rfl; have q6 : (ByteArray.mk #[46]).size = 1 := rfl; simp only [ByteArray.size_append, ofBs_size, q1, q2, q3, q4, q5, q6]; omega)) rfl ?_; rw [ofBs_app, lit_app])
    all_goals (refine nx_op ?_; refine opw_yld (Yld.assign rfl) rfl ?_)
    all_goals refine nx_nil ?_
    all_goals refine kp_code_normal ?_
    all_goals refine nx_region ?_
    all_goals (refine nx_op ?_; refine opw_yld (Yld.move rfl) rfl ?_)
    all_goals (refine nx_op ?_; refine opw_yld (Yld.catS rfl rfl (by have q1 : (ByteArray.mk #[47]).size = 1 := rfl; have q2 : (ByteArray.mk #[46, 47]).size = 2 := rfl; have q3 : (ByteArray.mk #[47, 47]).size = 2 := rfl; have q4 : (ByteArray.mk #[46, 46, 47]).size = 3 := rfl; have q5 : (ByteArray.mk #[47, 46, 47]).size = 3 := rfl; have q6 : (ByteArray.mk #[46]).size = 1 := rfl; simp only [ByteArray.size_append, ofBs_size, q1, q2, q3, q4, q5, q6]; omega)) rfl ?_)
    all_goals (refine nx_op ?_; refine opw_yld (Yld.move rfl) rfl ?_)
    all_goals (refine nx_op ?_; refine opw_yld (Yld.catS rfl rfl (by have q1 : (ByteArray.mk #[47]).size = 1 := rfl; have q2 : (ByteArray.mk #[46, 47]).size = 2 := rfl; have q3 : (ByteArray.mk #[47, 47]).size = 2 := rfl; have q4 : (ByteArray.mk #[46, 46, 47]).size = 3 := rfl; have q5 : (ByteArray.mk #[47, 46, 47]).size = 3 := rfl; have q6 : (ByteArray.mk #[46]).size = 1 := rfl; simp only [ByteArray.size_append, ofBs_size, q1, q2, q3, q4, q5, q6]; omega)) rfl ?_)
    all_goals (refine nx_op ?_; refine opw_yld (Yld.catS rfl rfl (by have q1 : (ByteArray.mk #[47]).size = 1 := rfl; have q2 : (ByteArray.mk #[46, 47]).size = 2 := rfl; have q3 : (ByteArray.mk #[47, 47]).size = 2 := rfl; have q4 : (ByteArray.mk #[46, 46, 47]).size = 3 := rfl; have q5 : (ByteArray.mk #[47, 46, 47]).size = 3 := rfl; have q6 : (ByteArray.mk #[46]).size = 1 := rfl; simp only [ByteArray.size_append, ofBs_size, q1, q2, q3, q4, q5, q6]; omega)) rfl ?_)
    all_goals (refine nx_op ?_; refine opw_yld (Yld.catS rfl rfl (by have q1 : (ByteArray.mk #[47]).size = 1 := rfl; have q2 : (ByteArray.mk #[46, 47]).size = 2 := rfl; have q3 : (ByteArray.mk #[47, 47]).size = 2 := rfl; have q4 : (ByteArray.mk #[46, 46, 47]).size = 3 := rfl; have q5 : (ByteArray.mk #[47, 46, 47]).size = 3 := rfl; have q6 : (ByteArray.mk #[46]).size = 1 := rfl; simp only [ByteArray.size_append, ofBs_size, q1, q2, q3, q4, q5, q6]; omega)) rfl ?_)
    all_goals (refine nx_op ?_; refine opw_yld (Yld.move rfl) rfl ?_)
    all_goals (refine nx_op ?_; refine opw_yld (Yld.catS rfl rfl (by have q1 : (ByteArray.mk #[47]).size = 1 := rfl; have q2 : (ByteArray.mk #[46, 47]).size = 2 := rfl; have q3 : (ByteArray.mk #[47, 47]).size = 2 := rfl; have q4 : (ByteArray.mk #[46, 46, 47]).size = 3 := rfl; have q5 : (ByteArray.mk #[47, 46, 47]).size = 3 := rfl; have q6 : (ByteArray.mk #[46]).size = 1 := rfl; simp only [ByteArray.size_append, ofBs_size, q1, q2, q3, q4, q5, q6]; omega)) rfl ?_)
    all_goals (refine nx_op ?_; refine opw_yld (Yld.catS rfl rfl (by have q1 : (ByteArray.mk #[47]).size = 1 := rfl; have q2 : (ByteArray.mk #[46, 47]).size = 2 := rfl; have q3 : (ByteArray.mk #[47, 47]).size = 2 := rfl; have q4 : (ByteArray.mk #[46, 46, 47]).size = 3 := rfl; have q5 : (ByteArray.mk #[47, 46, 47]).size = 3 := rfl; have q6 : (ByteArray.mk #[46]).size = 1 := rfl; simp only [ByteArray.size_append, ofBs_size, q1, q2, q3, q4, q5, q6]; omega)) rfl ?_; simp only [ofBs_app, lit_app])
    all_goals (refine nx_op ?_; refine opw_yld (Yld.assign rfl) rfl ?_)
    all_goals refine nx_nil ?_
    all_goals refine kp_blk_normal ?_
    all_goals refine kp_code_normal ?_
    all_goals refine nx_region ?_
    all_goals (refine nx_op ?_; refine opw_yld (Yld.move rfl) rfl ?_)
    all_goals (refine nx_op ?_; refine opw_yld (Yld.addI rfl rfl (by omega) (by omega)) rfl ?_)
    all_goals (refine nx_op ?_; refine opw_yld (Yld.assign rfl) rfl ?_)
    all_goals refine nx_nil ?_
    have e1 : plainB (ns ++ [s]) = plainB ns ++ s ++ [47] := by simp [plainB]
    have e2 : longB (ns ++ [s]) = longB ns ++ [46, 47] ++ s ++ [47, 47] ++ [46, 46, 47] ++ s ++ [47, 46, 47] := by simp [longB]
    refine nx_round (m' := 8 - (j + 1)) (L' := [T.chunk, [(b20, .cells [.string ⟨#[97]⟩, .string ⟨#[98]⟩, .string ⟨#[99]⟩].toArray 9 (0, 0))], F]) ⟨j + 1, ns ++ [s], by simp [hj], by omega, by omega, rfl, by
      intro t ht
      rcases List.mem_append.1 ht with ht | ht
      · exact hns t ht
      · simp at ht; subst ht; exact hab, by rw [e1, e2], rfl⟩ (by omega) (by repeat' (first | exact .nil | refine .cons rfl ?_)) inferInstance
  have hlaw := plain_law hch hin ns hns (by omega)
  by_cases hl3 : j < l.length
  · have hb1 : decide ((j : Int) < (l.length : Int)) = true := by simp; omega
    have hb2 : decide ((j : Int) < 8) = false := by simp; omega
    all_goals refine nx_seq ?_
    all_goals refine nx_seq ?_
    all_goals refine nx_region ?_
    all_goals (refine nx_op ?_; refine opw_yld (Yld.move rfl) rfl ?_)
    all_goals (refine nx_op ?_; refine opw_yld (Yld.move rfl) rfl ?_)
    all_goals (refine nx_op ?_; refine opw_yld (Yld.lenSlice rfl) rfl ?_)
    all_goals (refine nx_op ?_; refine opw_yld (Yld.cmp rfl rfl rfl) rfl ?_)
    all_goals (refine nx_op ?_; refine opw_yld (Yld.move rfl) rfl ?_)
    all_goals (first | refine nx_guard_n rfl (by first | rfl | assumption) rfl ?_ | refine nx_guard_u rfl rfl ?_ | ((first | refine nx_guard_y rfl (by first | rfl | assumption) ?_ | refine nx_guard rfl rfl (fun hc => ?_) (fun hc => ?_)); all_goals (first | (refine opw_yld (Yld.move rfl) rfl ?_) | skip)))
    all_goals (first | refine nx_guard_n rfl (by first | rfl | assumption) rfl ?_ | refine nx_guard_u rfl rfl ?_ | ((first | refine nx_guard_y rfl (by first | rfl | assumption) ?_ | refine nx_guard rfl rfl (fun hc => ?_) (fun hc => ?_)); all_goals (first | (refine opw_yld (Yld.cmp rfl rfl rfl) rfl ?_) | skip)))
    all_goals (refine nx_op ?_; (first | refine opw_yld (Yld.pick_t rfl (by first | rfl | assumption) rfl) rfl ?_ | refine opw_yld (Yld.pick_f rfl (by first | rfl | assumption) rfl) rfl ?_))
    all_goals refine nx_nil ?_
    all_goals refine kp_code_normal ?_
    all_goals (refine nx_cond rfl (fun hc => ?_) (fun hc => ?_))
    all_goals (first | (exact Bool.noConfusion (hc.symm.trans (by first | rfl | assumption) : true = false)) | (exact Bool.noConfusion (hc.symm.trans (by first | rfl | assumption) : false = true)) | (all_goals refine nx_skip ?_) | (all_goals refine nx_exit ?_; all_goals refine kp_code_exit ?_; all_goals refine kp_loop_exit ?_; all_goals refine kp_blk_exit rfl ?_; all_goals refine kp_code_normal ?_; all_goals refine nx_seq ?_; all_goals refine nx_region ?_; all_goals (refine nx_op ?_; refine opw_yld (Yld.move rfl) rfl ?_); all_goals (refine nx_op ?_; refine opw_yld (Yld.move rfl) rfl ?_); all_goals (refine nx_op ?_; refine opw_yld (Yld.catS rfl rfl (by have q1 : (ByteArray.mk #[47]).size = 1 := rfl; have q2 : (ByteArray.mk #[46, 47]).size = 2 := rfl; have q3 : (ByteArray.mk #[47, 47]).size = 2 := rfl; have q4 : (ByteArray.mk #[46, 46, 47]).size = 3 := rfl; have q5 : (ByteArray.mk #[47, 46, 47]).size = 3 := rfl; have q6 : (ByteArray.mk #[46]).size = 1 := rfl; simp only [ByteArray.size_append, ofBs_size, q1, q2, q3, q4, q5, q6]; omega)) rfl ?_; rw [lit_app]); all_goals (refine nx_op ?_; (refine opw_call rfl (sp12 (InT.of hT (by simp +contextual)) 1 _ true) inferInstance rfl ?_; rintro _ _ ⟨rfl, rfl⟩; simp only [List.nil_append, hA, bs_ofBs, hlaw]; generalize hw : walkA A 1 (plainB ns ++ [46]) true = wk; obtain ⟨⟨w1, w2, w3⟩, w4⟩ := wk; simp only [walkV, foV])); all_goals (refine nx_op ?_; refine opw_yld (Yld.move rfl) rfl ?_); all_goals (refine nx_op ?_; refine opw_yld (Yld.extract rfl rfl) rfl ?_); all_goals (refine nx_op ?_; refine opw_yld (Yld.extract rfl rfl) rfl ?_); all_goals (refine nx_op ?_; refine opw_alc Alc.alloc rfl (fun b16 => ?_)); all_goals (refine nx_op ?_; refine opw_storeAgg rfl rfl rfl (by simp [Value.oneCell']) ?_); all_goals (refine nx_op ?_; refine opw_yld (Yld.assign rfl) rfl ?_); all_goals refine nx_nil ?_; all_goals refine kp_code_normal ?_; all_goals refine nx_seq ?_; all_goals refine nx_region ?_; all_goals (refine nx_op ?_; refine opw_yld (Yld.move rfl) rfl ?_); all_goals (refine nx_op ?_; refine opw_yld (Yld.move rfl) rfl ?_); all_goals (refine nx_op ?_; refine opw_yld (Yld.catS rfl rfl (by have q1 : (ByteArray.mk #[47]).size = 1 := rfl; have q2 : (ByteArray.mk #[46, 47]).size = 2 := rfl; have q3 : (ByteArray.mk #[47, 47]).size = 2 := rfl; have q4 : (ByteArray.mk #[46, 46, 47]).size = 3 := rfl; have q5 : (ByteArray.mk #[47, 46, 47]).size = 3 := rfl; have q6 : (ByteArray.mk #[46]).size = 1 := rfl; simp only [ByteArray.size_append, ofBs_size, q1, q2, q3, q4, q5, q6]; omega)) rfl ?_; rw [lit_app]); all_goals (refine nx_op ?_; (refine opw_call rfl (sp12 (InT.of hT (by simp +contextual)) 1 _ true) inferInstance rfl ?_; rintro _ _ ⟨rfl, rfl⟩; simp only [List.nil_append, hA, bs_ofBs, hlaw]; generalize hw : walkA A 1 (plainB ns ++ [46]) true = wk; obtain ⟨⟨w1, w2, w3⟩, w4⟩ := wk; simp only [walkV, foV])); all_goals (refine nx_op ?_; refine opw_yld (Yld.move rfl) rfl ?_); all_goals (refine nx_op ?_; refine opw_yld (Yld.extract rfl rfl) rfl ?_); all_goals (refine nx_op ?_; refine opw_yld (Yld.extract rfl rfl) rfl ?_); all_goals (refine nx_op ?_; refine opw_alc Alc.alloc rfl (fun b18 => ?_)); all_goals (refine nx_op ?_; refine opw_storeAgg rfl rfl rfl (by simp [Value.oneCell']) ?_); all_goals (refine nx_op ?_; refine opw_yld (Yld.assign rfl) rfl ?_); all_goals refine nx_nil ?_; all_goals refine kp_code_normal ?_; all_goals refine nx_seq ?_; all_goals refine nx_region ?_; all_goals (refine nx_op ?_; refine opw_yld (Yld.fieldAddr rfl) rfl ?_); all_goals (refine nx_op ?_; refine opw_yld (Yld.load rfl) rfl ?_); all_goals (refine nx_op ?_; refine opw_yld (Yld.fieldAddr rfl) rfl ?_); all_goals (refine nx_op ?_; refine opw_yld (Yld.load rfl) rfl ?_); all_goals (refine nx_op ?_; refine opw_yld (Yld.cmp rfl rfl rfl) rfl ?_); all_goals (refine nx_op ?_; refine opw_yld (Yld.move rfl) rfl ?_); all_goals (first | refine nx_guard_n rfl (by first | rfl | assumption) rfl ?_ | refine nx_guard_u rfl rfl ?_ | ((first | refine nx_guard_y rfl (by first | rfl | assumption) ?_ | refine nx_guard rfl rfl (fun hc => ?_) (fun hc => ?_)); all_goals (first | (refine opw_yld (Yld.move rfl) rfl ?_) | skip))); all_goals (first | refine nx_guard_n rfl (by first | rfl | assumption) rfl ?_ | refine nx_guard_u rfl rfl ?_ | ((first | refine nx_guard_y rfl (by first | rfl | assumption) ?_ | refine nx_guard rfl rfl (fun hc => ?_) (fun hc => ?_)); all_goals (first | (refine opw_yld (Yld.move rfl) rfl ?_) | skip))); all_goals (first | refine nx_guard_n rfl (by first | rfl | assumption) rfl ?_ | refine nx_guard_u rfl rfl ?_ | ((first | refine nx_guard_y rfl (by first | rfl | assumption) ?_ | refine nx_guard rfl rfl (fun hc => ?_) (fun hc => ?_)); all_goals (first | (refine opw_yld (Yld.cmp rfl rfl rfl) rfl ?_) | skip))); all_goals (refine nx_op ?_; (first | refine opw_yld (Yld.pick_t rfl (by first | rfl | assumption) rfl) rfl ?_ | refine opw_yld (Yld.pick_f rfl (by first | rfl | assumption) rfl) rfl ?_)); all_goals (refine nx_op ?_; refine opw_yld (Yld.assign rfl) rfl ?_); all_goals refine nx_nil ?_; all_goals refine kp_code_normal ?_; all_goals refine nx_ret ?_; all_goals (exact res1 (by first | exact .inl rfl | exact .inr rfl) Tryd.results3 rfl [] inferInstance (by simp_all))))
    all_goals refine kp_code_normal ?_
    all_goals refine nx_seq ?_
    all_goals refine nx_block ?_
    all_goals refine nx_seq ?_
    all_goals refine nx_region ?_
    all_goals (refine nx_op ?_; refine opw_yld (Yld.move rfl) rfl ?_)
    all_goals (refine nx_op ?_; refine opw_yld (Yld.move rfl) rfl ?_)
    all_goals (refine nx_op ?_; refine opw_yld (Yld.move rfl) rfl ?_)
    all_goals (refine nx_op ?_; refine opw_yld (Yld.indexAddr rfl rfl (by omega)) rfl ?_)
    all_goals (refine nx_op ?_; refine opw_yld (Yld.load rfl) rfl ?_)
    all_goals (refine nx_op ?_; refine opw_yld (Yld.rem rfl rfl (by decide)) rfl ?_)
    all_goals (refine nx_op ?_; refine opw_yld (Yld.indexAddr rfl rfl (by omega)) rfl ?_)
    all_goals (refine nx_op ?_; refine opw_yld (Yld.load rfl) rfl ?_)
    all_goals (refine nx_op ?_; refine opw_yld (Yld.assign rfl) rfl ?_)
    all_goals refine nx_nil ?_
    all_goals refine kp_code_normal ?_
    all_goals refine nx_seq ?_
    all_goals refine nx_region ?_
    all_goals (refine nx_op ?_; refine opw_yld (Yld.move rfl) rfl ?_)
    all_goals (refine nx_op ?_; refine opw_yld (Yld.move rfl) rfl ?_)
    all_goals (refine nx_op ?_; refine opw_yld (Yld.catS rfl rfl (by omega)) rfl ?_)
    all_goals (refine nx_op ?_; refine opw_yld (Yld.catS rfl rfl (by omega)) rfl ?_)
    all_goals (refine nx_op ?_; refine opw_yld (Yld.assign rfl) rfl ?_)
    all_goals refine nx_nil ?_
    all_goals refine kp_code_normal ?_
    all_goals refine nx_region ?_
    all_goals (refine nx_op ?_; refine opw_yld (Yld.move rfl) rfl ?_)
    all_goals (refine nx_op ?_; refine opw_yld (Yld.catS rfl rfl (by omega)) rfl ?_)
    all_goals (refine nx_op ?_; refine opw_yld (Yld.move rfl) rfl ?_)
    all_goals (refine nx_op ?_; refine opw_yld (Yld.catS rfl rfl (by omega)) rfl ?_)
    all_goals (refine nx_op ?_; refine opw_yld (Yld.catS rfl rfl (by omega)) rfl ?_)
    all_goals (refine nx_op ?_; refine opw_yld (Yld.catS rfl rfl (by omega)) rfl ?_)
    all_goals (refine nx_op ?_; refine opw_yld (Yld.move rfl) rfl ?_)
    all_goals (refine nx_op ?_; refine opw_yld (Yld.catS rfl rfl (by omega)) rfl ?_)
    all_goals (refine nx_op ?_; refine opw_yld (Yld.catS rfl rfl (by omega)) rfl ?_)
    all_goals (refine nx_op ?_; refine opw_yld (Yld.assign rfl) rfl ?_)
    all_goals refine nx_nil ?_
    all_goals refine kp_blk_normal ?_
    all_goals refine kp_code_normal ?_
    all_goals refine nx_region ?_
    all_goals (refine nx_op ?_; refine opw_yld (Yld.move rfl) rfl ?_)
    all_goals (refine nx_op ?_; (first | refine opw_yld (Yld.addI rfl rfl (by omega) (by omega)) rfl ?_ | refine opw_yld (Yld.add rfl rfl) rfl ?_))
    all_goals (refine nx_op ?_; refine opw_yld (Yld.assign rfl) rfl ?_)
    all_goals refine nx_nil ?_
  · have hb1 : decide ((j : Int) < (l.length : Int)) = false := by simp; omega
    all_goals refine nx_seq ?_
    all_goals refine nx_seq ?_
    all_goals refine nx_region ?_
    all_goals (refine nx_op ?_; refine opw_yld (Yld.move rfl) rfl ?_)
    all_goals (refine nx_op ?_; refine opw_yld (Yld.move rfl) rfl ?_)
    all_goals (refine nx_op ?_; refine opw_yld (Yld.lenSlice rfl) rfl ?_)
    all_goals (refine nx_op ?_; refine opw_yld (Yld.cmp rfl rfl rfl) rfl ?_)
    all_goals (refine nx_op ?_; refine opw_yld (Yld.move rfl) rfl ?_)
    all_goals (first | refine nx_guard_n rfl (by first | rfl | assumption) rfl ?_ | refine nx_guard_u rfl rfl ?_ | ((first | refine nx_guard_y rfl (by first | rfl | assumption) ?_ | refine nx_guard rfl rfl (fun hc => ?_) (fun hc => ?_)); all_goals (first | (refine opw_yld (Yld.move rfl) rfl ?_) | skip)))
    all_goals (first | refine nx_guard_n rfl (by first | rfl | assumption) rfl ?_ | refine nx_guard_u rfl rfl ?_ | ((first | refine nx_guard_y rfl (by first | rfl | assumption) ?_ | refine nx_guard rfl rfl (fun hc => ?_) (fun hc => ?_)); all_goals (first | (refine opw_yld (Yld.cmp rfl rfl rfl) rfl ?_) | skip)))
    all_goals (refine nx_op ?_; (first | refine opw_yld (Yld.pick_t rfl (by first | rfl | assumption) rfl) rfl ?_ | refine opw_yld (Yld.pick_f rfl (by first | rfl | assumption) rfl) rfl ?_))
    all_goals refine nx_nil ?_
    all_goals refine kp_code_normal ?_
    all_goals (refine nx_cond rfl (fun hc => ?_) (fun hc => ?_))
    all_goals (first | (exact Bool.noConfusion (hc.symm.trans (by first | rfl | assumption) : true = false)) | (exact Bool.noConfusion (hc.symm.trans (by first | rfl | assumption) : false = true)) | (all_goals refine nx_skip ?_) | (all_goals refine nx_exit ?_; all_goals refine kp_code_exit ?_; all_goals refine kp_loop_exit ?_; all_goals refine kp_blk_exit rfl ?_; all_goals refine kp_code_normal ?_; all_goals refine nx_seq ?_; all_goals refine nx_region ?_; all_goals (refine nx_op ?_; refine opw_yld (Yld.move rfl) rfl ?_); all_goals (refine nx_op ?_; refine opw_yld (Yld.move rfl) rfl ?_); all_goals (refine nx_op ?_; refine opw_yld (Yld.catS rfl rfl (by have q1 : (ByteArray.mk #[47]).size = 1 := rfl; have q2 : (ByteArray.mk #[46, 47]).size = 2 := rfl; have q3 : (ByteArray.mk #[47, 47]).size = 2 := rfl; have q4 : (ByteArray.mk #[46, 46, 47]).size = 3 := rfl; have q5 : (ByteArray.mk #[47, 46, 47]).size = 3 := rfl; have q6 : (ByteArray.mk #[46]).size = 1 := rfl; simp only [ByteArray.size_append, ofBs_size, q1, q2, q3, q4, q5, q6]; omega)) rfl ?_; rw [lit_app]); all_goals (refine nx_op ?_; (refine opw_call rfl (sp12 (InT.of hT (by simp +contextual)) 1 _ true) inferInstance rfl ?_; rintro _ _ ⟨rfl, rfl⟩; simp only [List.nil_append, hA, bs_ofBs, hlaw]; generalize hw : walkA A 1 (plainB ns ++ [46]) true = wk; obtain ⟨⟨w1, w2, w3⟩, w4⟩ := wk; simp only [walkV, foV])); all_goals (refine nx_op ?_; refine opw_yld (Yld.move rfl) rfl ?_); all_goals (refine nx_op ?_; refine opw_yld (Yld.extract rfl rfl) rfl ?_); all_goals (refine nx_op ?_; refine opw_yld (Yld.extract rfl rfl) rfl ?_); all_goals (refine nx_op ?_; refine opw_alc Alc.alloc rfl (fun b16 => ?_)); all_goals (refine nx_op ?_; refine opw_storeAgg rfl rfl rfl (by simp [Value.oneCell']) ?_); all_goals (refine nx_op ?_; refine opw_yld (Yld.assign rfl) rfl ?_); all_goals refine nx_nil ?_; all_goals refine kp_code_normal ?_; all_goals refine nx_seq ?_; all_goals refine nx_region ?_; all_goals (refine nx_op ?_; refine opw_yld (Yld.move rfl) rfl ?_); all_goals (refine nx_op ?_; refine opw_yld (Yld.move rfl) rfl ?_); all_goals (refine nx_op ?_; refine opw_yld (Yld.catS rfl rfl (by have q1 : (ByteArray.mk #[47]).size = 1 := rfl; have q2 : (ByteArray.mk #[46, 47]).size = 2 := rfl; have q3 : (ByteArray.mk #[47, 47]).size = 2 := rfl; have q4 : (ByteArray.mk #[46, 46, 47]).size = 3 := rfl; have q5 : (ByteArray.mk #[47, 46, 47]).size = 3 := rfl; have q6 : (ByteArray.mk #[46]).size = 1 := rfl; simp only [ByteArray.size_append, ofBs_size, q1, q2, q3, q4, q5, q6]; omega)) rfl ?_; rw [lit_app]); all_goals (refine nx_op ?_; (refine opw_call rfl (sp12 (InT.of hT (by simp +contextual)) 1 _ true) inferInstance rfl ?_; rintro _ _ ⟨rfl, rfl⟩; simp only [List.nil_append, hA, bs_ofBs, hlaw]; generalize hw : walkA A 1 (plainB ns ++ [46]) true = wk; obtain ⟨⟨w1, w2, w3⟩, w4⟩ := wk; simp only [walkV, foV])); all_goals (refine nx_op ?_; refine opw_yld (Yld.move rfl) rfl ?_); all_goals (refine nx_op ?_; refine opw_yld (Yld.extract rfl rfl) rfl ?_); all_goals (refine nx_op ?_; refine opw_yld (Yld.extract rfl rfl) rfl ?_); all_goals (refine nx_op ?_; refine opw_alc Alc.alloc rfl (fun b18 => ?_)); all_goals (refine nx_op ?_; refine opw_storeAgg rfl rfl rfl (by simp [Value.oneCell']) ?_); all_goals (refine nx_op ?_; refine opw_yld (Yld.assign rfl) rfl ?_); all_goals refine nx_nil ?_; all_goals refine kp_code_normal ?_; all_goals refine nx_seq ?_; all_goals refine nx_region ?_; all_goals (refine nx_op ?_; refine opw_yld (Yld.fieldAddr rfl) rfl ?_); all_goals (refine nx_op ?_; refine opw_yld (Yld.load rfl) rfl ?_); all_goals (refine nx_op ?_; refine opw_yld (Yld.fieldAddr rfl) rfl ?_); all_goals (refine nx_op ?_; refine opw_yld (Yld.load rfl) rfl ?_); all_goals (refine nx_op ?_; refine opw_yld (Yld.cmp rfl rfl rfl) rfl ?_); all_goals (refine nx_op ?_; refine opw_yld (Yld.move rfl) rfl ?_); all_goals (first | refine nx_guard_n rfl (by first | rfl | assumption) rfl ?_ | refine nx_guard_u rfl rfl ?_ | ((first | refine nx_guard_y rfl (by first | rfl | assumption) ?_ | refine nx_guard rfl rfl (fun hc => ?_) (fun hc => ?_)); all_goals (first | (refine opw_yld (Yld.move rfl) rfl ?_) | skip))); all_goals (first | refine nx_guard_n rfl (by first | rfl | assumption) rfl ?_ | refine nx_guard_u rfl rfl ?_ | ((first | refine nx_guard_y rfl (by first | rfl | assumption) ?_ | refine nx_guard rfl rfl (fun hc => ?_) (fun hc => ?_)); all_goals (first | (refine opw_yld (Yld.move rfl) rfl ?_) | skip))); all_goals (first | refine nx_guard_n rfl (by first | rfl | assumption) rfl ?_ | refine nx_guard_u rfl rfl ?_ | ((first | refine nx_guard_y rfl (by first | rfl | assumption) ?_ | refine nx_guard rfl rfl (fun hc => ?_) (fun hc => ?_)); all_goals (first | (refine opw_yld (Yld.cmp rfl rfl rfl) rfl ?_) | skip))); all_goals (refine nx_op ?_; (first | refine opw_yld (Yld.pick_t rfl (by first | rfl | assumption) rfl) rfl ?_ | refine opw_yld (Yld.pick_f rfl (by first | rfl | assumption) rfl) rfl ?_)); all_goals (refine nx_op ?_; refine opw_yld (Yld.assign rfl) rfl ?_); all_goals refine nx_nil ?_; all_goals refine kp_code_normal ?_; all_goals refine nx_ret ?_; all_goals (exact res1 (by first | exact .inl rfl | exact .inr rfl) Tryd.results3 rfl [] inferInstance (by simp_all))))
    all_goals refine kp_code_normal ?_
    all_goals refine nx_seq ?_
    all_goals refine nx_block ?_
    all_goals refine nx_seq ?_
    all_goals refine nx_region ?_
    all_goals (refine nx_op ?_; refine opw_yld (Yld.move rfl) rfl ?_)
    all_goals (refine nx_op ?_; refine opw_yld (Yld.move rfl) rfl ?_)
    all_goals (refine nx_op ?_; refine opw_yld (Yld.move rfl) rfl ?_)
    all_goals (refine nx_op ?_; refine opw_yld (Yld.indexAddr rfl rfl (by omega)) rfl ?_)
    all_goals (refine nx_op ?_; refine opw_yld (Yld.load rfl) rfl ?_)
    all_goals (refine nx_op ?_; refine opw_yld (Yld.rem rfl rfl (by decide)) rfl ?_)
    all_goals (refine nx_op ?_; refine opw_yld (Yld.indexAddr rfl rfl (by omega)) rfl ?_)
    all_goals (refine nx_op ?_; refine opw_yld (Yld.load rfl) rfl ?_)
    all_goals (refine nx_op ?_; refine opw_yld (Yld.assign rfl) rfl ?_)
    all_goals refine nx_nil ?_
    all_goals refine kp_code_normal ?_
    all_goals refine nx_seq ?_
    all_goals refine nx_region ?_
    all_goals (refine nx_op ?_; refine opw_yld (Yld.move rfl) rfl ?_)
    all_goals (refine nx_op ?_; refine opw_yld (Yld.move rfl) rfl ?_)
    all_goals (refine nx_op ?_; refine opw_yld (Yld.catS rfl rfl (by omega)) rfl ?_)
    all_goals (refine nx_op ?_; refine opw_yld (Yld.catS rfl rfl (by omega)) rfl ?_)
    all_goals (refine nx_op ?_; refine opw_yld (Yld.assign rfl) rfl ?_)
    all_goals refine nx_nil ?_
    all_goals refine kp_code_normal ?_
    all_goals refine nx_region ?_
    all_goals (refine nx_op ?_; refine opw_yld (Yld.move rfl) rfl ?_)
    all_goals (refine nx_op ?_; refine opw_yld (Yld.catS rfl rfl (by omega)) rfl ?_)
    all_goals (refine nx_op ?_; refine opw_yld (Yld.move rfl) rfl ?_)
    all_goals (refine nx_op ?_; refine opw_yld (Yld.catS rfl rfl (by omega)) rfl ?_)
    all_goals (refine nx_op ?_; refine opw_yld (Yld.catS rfl rfl (by omega)) rfl ?_)
    all_goals (refine nx_op ?_; refine opw_yld (Yld.catS rfl rfl (by omega)) rfl ?_)
    all_goals (refine nx_op ?_; refine opw_yld (Yld.move rfl) rfl ?_)
    all_goals (refine nx_op ?_; refine opw_yld (Yld.catS rfl rfl (by omega)) rfl ?_)
    all_goals (refine nx_op ?_; refine opw_yld (Yld.catS rfl rfl (by omega)) rfl ?_)
    all_goals (refine nx_op ?_; refine opw_yld (Yld.assign rfl) rfl ?_)
    all_goals refine nx_nil ?_
    all_goals refine kp_blk_normal ?_
    all_goals refine kp_code_normal ?_
    all_goals refine nx_region ?_
    all_goals (refine nx_op ?_; refine opw_yld (Yld.move rfl) rfl ?_)
    all_goals (refine nx_op ?_; (first | refine opw_yld (Yld.addI rfl rfl (by omega) (by omega)) rfl ?_ | refine opw_yld (Yld.add rfl rfl) rfl ?_))
    all_goals (refine nx_op ?_; refine opw_yld (Yld.assign rfl) rfl ?_)
    all_goals refine nx_nil ?_
end
end Go.Proofs.YtdobndclhbkooaaDoor
