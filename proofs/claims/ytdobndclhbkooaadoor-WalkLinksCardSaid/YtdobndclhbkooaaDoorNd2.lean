/- Looking an entry up in a directory; a node's parent; what is told of it. Conditions: the tree lies in the memory that is kept. -/
import Derived.Test.YtdobndclhbkooaaDoorNd
namespace Go.Proofs.YtdobndclhbkooaaDoor
open Go Go.SL
set_option maxRecDepth 100000
set_option linter.unusedVariables false

/-- A slice that reads as these cells, m elements. -/
def Ro (F : Chunk) (v : Value) (m : Nat) (xs : List Value) : Prop :=
  (v = .slice none 0 0 ∧ m = 0 ∧ xs = []) ∨ ∃ b o cap cs e z, v = .slice (some ⟨b, o, none⟩) m cap ∧ m ≤ cap ∧ (b, .cells (List.toArray cs) e z) ∈ F ∧ (cs.drop o).take xs.length = xs
theorem Own_ro {e sz m : Nat} {v : Value} {xs : List Value} {c F : Chunk} (h : Own e sz v m xs c) (hs : 0 < sz) (hF : ∀ y ∈ c, y ∈ F) : Ro F v m xs := by
  rcases h.2 with ⟨rfl, rfl, rfl⟩ | ⟨b, cap, tl, rfl, rfl, hmc, hcm, htl⟩
  · exact .inl ⟨rfl, rfl, List.eq_nil_of_length_eq_zero (by simpa using h.1)⟩
  · exact .inr ⟨b, 0, cap, xs ++ tl, e, (0, 0), rfl, hmc, hF _ (by simp), by simp⟩

theorem entsV_cons (e : Ent) (l : List Ent) : entsV (e :: l) = entV e ++ entsV l := rfl
theorem entsV_append (l r : List Ent) : entsV (l ++ r) = entsV l ++ entsV r := by simp [entsV]
theorem entsV_drop (l : List Ent) (i : Nat) : (entsV l).drop (i * 3) = entsV (l.drop i) := by
  induction l generalizing i with
  | nil => simp [entsV]
  | cons e l ih =>
    cases i with
    | zero => simp
    | succ i =>
      have e1 : (i + 1) * 3 = 3 + i * 3 := by omega
      rw [entsV_cons, e1, List.drop_append, List.drop_succ_cons, ← ih]
      simp [entV]
theorem sub_ents {cs : List Value} {o : Nat} {l : List Ent} (h : (cs.drop o).take (entsV l).length = entsV l) {i : Nat} {e : Ent} (he : l[i]? = some e) : SubL cs (o + i * 3) 3 (entV e) := by
  refine ⟨?_, rfl⟩
  obtain ⟨hlt, hg⟩ := List.getElem?_eq_some_iff.1 he
  have h1 := congrArg (fun z => z.drop (i * 3)) h
  simp only [List.drop_take, List.drop_drop, entsV_drop] at h1
  have h2 : l.drop i = e :: l.drop (i + 1) := by rw [List.drop_eq_getElem_cons hlt, hg]
  rw [h2, entsV_cons] at h1
  have h3 := congrArg (fun z => z.take 3) h1
  simp only [List.take_take] at h3
  have h4 : min 3 ((entsV l).length - i * 3) = 3 := by rw [entsV_length]; omega
  rw [h4] at h3
  rw [h3]
  simp [entV]

/-- The place of the first entry of a name. -/
def hasName (nm : List UInt8) (e : Ent) : Bool := bs e.name == nm
def idxE (l : List Ent) (nm : List UInt8) : Int := match l.findIdx? (hasName nm) with
  | some i => (i : Nat)
  | none => -1

section
variable {F : Chunk}
theorem sp134 (e : Ent) (nm : ByteArray) (c : Nat) [hnm : FndR c (.cells [.string nm].toArray 9 (0, 0)) [F]] : Sp Tryd.prog 134 [.agg (entV e).toArray, .pointer (some ⟨c, 0, none⟩)] F [] (fun v B => v = .bool (hasName (bs nm) e) ∧ B = []) := by
  have i1 : InC c (.cells [.string nm].toArray 9 (0, 0)) F := ⟨by simpa using hnm.mem⟩
  refine sp_enter Tryd.func134 rfl Tryd.ntmps134 rfl (fun g => ?_)
  simp only [argFr, List.nil_append, Nat.reduceAdd]
  simp only [entV]
  all_goals (refine nx_seq ?_; refine nx_region ?_)
  all_goals (refine nx_op ?_; refine opw_alc (Alc.boxAgg rfl) rfl (fun b2 => ?_))
  all_goals (refine nx_op ?_; refine opw_yld (Yld.assign rfl) rfl ?_; refine nx_nil ?_; refine kp_code_normal ?_; refine nx_seq ?_; refine nx_region ?_; refine nx_op ?_; refine opw_yld (Yld.fieldAddr rfl) rfl ?_; refine nx_op ?_; refine opw_yld (Yld.load rfl) rfl ?_; refine nx_op ?_; refine opw_yld (Yld.load rfl) rfl ?_; refine nx_op ?_; refine opw_yld (Yld.eqS rfl rfl) rfl ?_; refine nx_op ?_; refine opw_yld (Yld.assign rfl) rfl ?_; refine nx_nil ?_; refine kp_code_normal ?_; refine nx_ret ?_)
  all_goals (exact res1 (by first | exact .inl rfl | exact .inr rfl) Tryd.results134 rfl [] inferInstance ⟨rfl, rfl⟩)

theorem find_all {l : List Ent} {nm : List UInt8} (h : ∀ (j : Nat) (e : Ent), l[j]? = some e → hasName nm e = false) : idxE l nm = -1 := by
  have : l.findIdx? (hasName nm) = none := by
    rw [List.findIdx?_eq_none_iff]
    intro x hx
    obtain ⟨j, hj⟩ := List.getElem?_of_mem hx
    exact h j x hj
  simp [idxE, this]
theorem find_at {l : List Ent} {nm : List UInt8} {i : Nat} {e : Ent} (he : l[i]? = some e) (hp : hasName nm e = true) (h : ∀ (j : Nat) (e : Ent), j < i → l[j]? = some e → hasName nm e = false) : idxE l nm = i := by
  have : l.findIdx? (hasName nm) = some i := by
    rw [List.findIdx?_eq_some_iff_getElem]
    obtain ⟨hlt, hg⟩ := List.getElem?_eq_some_iff.1 he
    exact ⟨hlt, by rw [hg]; exact hp, fun j hj => by simpa using h j _ hj (List.getElem?_eq_getElem (by omega))⟩
  simp [idxE, this]

theorem sp133 {v : Value} {l : List Ent} (hv : Ro F v l.length (entsV l)) (hs : l.length < 1073741824) (nm : ByteArray) (c : Nat) [hnm : FndR c (.cells [.string nm].toArray 9 (0, 0)) [F]] :
    Sp Tryd.prog 133 [v, .func (.func 134) [].toArray [.pointer (some ⟨c, 0, none⟩)].toArray] F [] (fun v B => v = .int .i64 (idxE l (bs nm)) ∧ B = []) := by
  rcases hv with ⟨rfl, h0, h1⟩ | ⟨b, o, cap, cs, et, z, rfl, hcap, hm, hcs⟩
  · obtain rfl : l = [] := List.eq_nil_of_length_eq_zero h0
    refine sp_enter Tryd.func133 rfl Tryd.ntmps133 rfl (fun g => ?_)
    simp only [argFr, List.nil_append, Nat.reduceAdd]
    all_goals (refine nx_seq ?_; refine nx_region ?_; refine nx_op ?_; refine opw_yld (Yld.assign rfl) rfl ?_; refine nx_nil ?_; refine kp_code_normal ?_; refine nx_seq ?_; refine nx_seq ?_; refine nx_region ?_; refine nx_op ?_; refine opw_yld (Yld.move rfl) rfl ?_; refine nx_op ?_; refine opw_yld (Yld.lenSlice rfl) rfl ?_; refine nx_op ?_; refine opw_yld (Yld.move rfl) rfl ?_; refine nx_nil ?_; refine kp_code_normal ?_; refine nx_block ?_)
    refine nx_loop (fun fr L m => fr = [(7, .int .i64 (0 : Nat)), (8, .int .i64 0)] ∧ L = [F] ∧ m = 0) ⟨rfl, rfl, rfl⟩ (by repeat' (first | exact .nil | refine .cons rfl ?_)) inferInstance ?_
    rintro fr L m ⟨rfl, rfl, rfl⟩
    all_goals (refine nx_seq ?_; refine nx_region ?_; refine nx_op ?_; refine opw_yld (Yld.cmp rfl rfl rfl) rfl ?_; refine nx_nil ?_; refine kp_code_normal ?_; refine nx_seq ?_)
    all_goals (refine nx_cond rfl (fun hc => ?_) (fun hc => ?_))
    all_goals (first | (exact Bool.noConfusion (hc.symm.trans (by first | rfl | assumption) : true = false)) | (exact Bool.noConfusion (hc.symm.trans (by first | rfl | assumption) : false = true)) | (all_goals refine nx_skip ?_) | (all_goals (refine nx_exit ?_; refine kp_code_exit ?_; refine kp_loop_exit ?_; refine kp_blk_exit rfl ?_; refine kp_code_normal ?_; refine nx_seq ?_; refine nx_region ?_; refine nx_op ?_; refine opw_yld (Yld.assign rfl) rfl ?_; refine nx_nil ?_; refine kp_code_normal ?_; refine nx_ret ?_); all_goals (exact res1 (by first | exact .inl rfl | exact .inr rfl) Tryd.results133 rfl [] inferInstance ⟨rfl, rfl⟩)))
    all_goals (refine kp_code_normal ?_; refine nx_seq ?_; refine nx_block ?_; refine nx_seq ?_; refine nx_region ?_; refine nx_op ?_; refine opw_yld (Yld.move rfl) rfl ?_; refine nx_op ?_; refine opw_yld (Yld.assign rfl) rfl ?_; refine nx_nil ?_; refine kp_code_normal ?_; refine nx_seq ?_; refine nx_region ?_; refine nx_op ?_; refine opw_yld (Yld.move rfl) rfl ?_; refine nx_op ?_; refine opw_yld (Yld.move rfl) rfl ?_; refine nx_op ?_; refine opw_yld (Yld.move rfl) rfl ?_)
    all_goals (refine nx_op ?_; skip)
    all_goals (refine nx_op ?_; refine opw_yld (Yld.loadAgg rfl) rfl ?_)
    all_goals (refine nx_op ?_; fail "call of a value: r4.5")
    all_goals (refine nx_nil ?_; refine kp_code_normal ?_)
    all_goals (refine nx_cond rfl (fun hc => ?_) (fun hc => ?_))
    all_goals (first | (exact Bool.noConfusion (hc.symm.trans (by first | rfl | assumption) : true = false)) | (exact Bool.noConfusion (hc.symm.trans (by first | rfl | assumption) : false = true)) | (all_goals (refine nx_seq ?_; refine nx_region ?_; refine nx_op ?_; refine opw_yld (Yld.move rfl) rfl ?_; refine nx_op ?_; refine opw_yld (Yld.assign rfl) rfl ?_; refine nx_nil ?_; refine kp_code_normal ?_; refine nx_ret ?_; refine kp_blk_ret ?_; refine kp_code_ret ?_; refine kp_loop_ret ?_; refine kp_blk_ret ?_; refine kp_code_ret ?_); all_goals (exact res1 (by first | exact .inl rfl | exact .inr rfl) Tryd.results133 rfl [] inferInstance ⟨rfl, rfl⟩)) | (all_goals refine nx_skip ?_))
    all_goals (refine kp_blk_normal ?_; refine kp_code_normal ?_; refine nx_region ?_)
    all_goals (refine nx_op ?_; (first | refine opw_yld (Yld.addI rfl rfl (by omega) (by omega)) rfl ?_ | refine opw_yld (Yld.add rfl rfl) rfl ?_))
    all_goals (refine nx_op ?_; refine opw_yld (Yld.move rfl) rfl ?_; refine nx_nil ?_)
  · have i0 : InC b (.cells cs.toArray et z) F := ⟨hm⟩
    refine sp_enter Tryd.func133 rfl Tryd.ntmps133 rfl (fun g => ?_)
    simp only [argFr, List.nil_append, Nat.reduceAdd]
    all_goals (refine nx_seq ?_; refine nx_region ?_; refine nx_op ?_; refine opw_yld (Yld.assign rfl) rfl ?_; refine nx_nil ?_; refine kp_code_normal ?_; refine nx_seq ?_; refine nx_seq ?_; refine nx_region ?_; refine nx_op ?_; refine opw_yld (Yld.move rfl) rfl ?_; refine nx_op ?_; refine opw_yld (Yld.lenSlice rfl) rfl ?_; refine nx_op ?_; refine opw_yld (Yld.move rfl) rfl ?_; refine nx_nil ?_; refine kp_code_normal ?_; refine nx_block ?_)
    refine nx_loop (fun fr L m => ∃ i : Nat, i ≤ l.length ∧ m = l.length - i ∧ (∀ (j : Nat) (e : Ent), j < i → l[j]? = some e → hasName (bs nm) e = false) ∧
        fr = [(0, .slice (some ⟨b, o, none⟩) l.length cap), (1, .func (.func 134) [].toArray [.pointer (some ⟨c, 0, none⟩)].toArray), (7, .int .i64 l.length), (8, .int .i64 i)] ∧ L = [F])
      ⟨0, by omega, rfl, fun j e h => by omega, rfl, rfl⟩ (by repeat' (first | exact .nil | refine .cons rfl ?_)) inferInstance ?_
    rintro fr L m ⟨i, hi, rfl, hall, rfl, rfl⟩
    by_cases hlt : i < l.length
    · have hb : decide ((i : Int) < (l.length : Int)) = true := by simp; omega
      have he : l[i]? = some l[i] := List.getElem?_eq_getElem hlt
      generalize l[i] = e at he
      have i2 := sub_ents hcs he
      cases hp : hasName (bs nm) e with
      | true =>
        all_goals (refine nx_seq ?_; refine nx_region ?_; refine nx_op ?_; refine opw_yld (Yld.cmp rfl rfl rfl) rfl ?_; refine nx_nil ?_; refine kp_code_normal ?_; refine nx_seq ?_)
        all_goals (refine nx_cond rfl (fun hc => ?_) (fun hc => ?_))
        all_goals (first | (exact Bool.noConfusion (hc.symm.trans (by first | rfl | assumption) : true = false)) | (exact Bool.noConfusion (hc.symm.trans (by first | rfl | assumption) : false = true)) | (all_goals refine nx_skip ?_) | (all_goals (refine nx_exit ?_; refine kp_code_exit ?_; refine kp_loop_exit ?_; refine kp_blk_exit rfl ?_; refine kp_code_normal ?_; refine nx_seq ?_; refine nx_region ?_; refine nx_op ?_; refine opw_yld (Yld.assign rfl) rfl ?_; refine nx_nil ?_; refine kp_code_normal ?_; refine nx_ret ?_); all_goals (exact res1 (by first | exact .inl rfl | exact .inr rfl) Tryd.results133 rfl [] inferInstance ⟨by rw [find_at he hp hall], rfl⟩)))
        all_goals (refine kp_code_normal ?_; refine nx_seq ?_; refine nx_block ?_; refine nx_seq ?_; refine nx_region ?_; refine nx_op ?_; refine opw_yld (Yld.move rfl) rfl ?_; refine nx_op ?_; refine opw_yld (Yld.assign rfl) rfl ?_; refine nx_nil ?_; refine kp_code_normal ?_; refine nx_seq ?_; refine nx_region ?_; refine nx_op ?_; refine opw_yld (Yld.move rfl) rfl ?_; refine nx_op ?_; refine opw_yld (Yld.move rfl) rfl ?_; refine nx_op ?_; refine opw_yld (Yld.move rfl) rfl ?_; refine nx_op ?_; refine opw_yld (Yld.indexAddr rfl rfl (by omega)) rfl ?_; refine nx_op ?_; refine opw_yld (Yld.loadAgg rfl) rfl ?_)
        all_goals (refine nx_op ?_; (refine opw_callV rfl rfl rfl (sp134 e nm c (hnm := ⟨by simpa using hnm.mem⟩)) inferInstance rfl ?_; rintro _ _ ⟨rfl, rfl⟩; simp only [List.nil_append, hp]))
        all_goals (refine nx_nil ?_; refine kp_code_normal ?_)
        all_goals (refine nx_cond rfl (fun hc => ?_) (fun hc => ?_))
        all_goals (first | (exact Bool.noConfusion (hc.symm.trans (by first | rfl | assumption) : true = false)) | (exact Bool.noConfusion (hc.symm.trans (by first | rfl | assumption) : false = true)) | (all_goals (refine nx_seq ?_; refine nx_region ?_; refine nx_op ?_; refine opw_yld (Yld.move rfl) rfl ?_; refine nx_op ?_; refine opw_yld (Yld.assign rfl) rfl ?_; refine nx_nil ?_; refine kp_code_normal ?_; refine nx_ret ?_; refine kp_blk_ret ?_; refine kp_code_ret ?_; refine kp_loop_ret ?_; refine kp_blk_ret ?_; refine kp_code_ret ?_); all_goals (exact res1 (by first | exact .inl rfl | exact .inr rfl) Tryd.results133 rfl [] inferInstance ⟨by rw [find_at he hp hall], rfl⟩)) | (all_goals refine nx_skip ?_))
        all_goals (refine kp_blk_normal ?_; refine kp_code_normal ?_; refine nx_region ?_)
        all_goals (refine nx_op ?_; (first | refine opw_yld (Yld.addI rfl rfl (by omega) (by omega)) rfl ?_ | refine opw_yld (Yld.add rfl rfl) rfl ?_))
        all_goals (refine nx_op ?_; refine opw_yld (Yld.move rfl) rfl ?_; refine nx_nil ?_)
      | false =>
        all_goals (refine nx_seq ?_; refine nx_region ?_; refine nx_op ?_; refine opw_yld (Yld.cmp rfl rfl rfl) rfl ?_; refine nx_nil ?_; refine kp_code_normal ?_; refine nx_seq ?_)
        all_goals (refine nx_cond rfl (fun hc => ?_) (fun hc => ?_))
        all_goals (first | (exact Bool.noConfusion (hc.symm.trans (by first | rfl | assumption) : true = false)) | (exact Bool.noConfusion (hc.symm.trans (by first | rfl | assumption) : false = true)) | (all_goals refine nx_skip ?_) | (all_goals (refine nx_exit ?_; refine kp_code_exit ?_; refine kp_loop_exit ?_; refine kp_blk_exit rfl ?_; refine kp_code_normal ?_; refine nx_seq ?_; refine nx_region ?_; refine nx_op ?_; refine opw_yld (Yld.assign rfl) rfl ?_; refine nx_nil ?_; refine kp_code_normal ?_; refine nx_ret ?_)))
        all_goals (refine kp_code_normal ?_; refine nx_seq ?_; refine nx_block ?_; refine nx_seq ?_; refine nx_region ?_; refine nx_op ?_; refine opw_yld (Yld.move rfl) rfl ?_; refine nx_op ?_; refine opw_yld (Yld.assign rfl) rfl ?_; refine nx_nil ?_; refine kp_code_normal ?_; refine nx_seq ?_; refine nx_region ?_; refine nx_op ?_; refine opw_yld (Yld.move rfl) rfl ?_; refine nx_op ?_; refine opw_yld (Yld.move rfl) rfl ?_; refine nx_op ?_; refine opw_yld (Yld.move rfl) rfl ?_; refine nx_op ?_; refine opw_yld (Yld.indexAddr rfl rfl (by omega)) rfl ?_; refine nx_op ?_; refine opw_yld (Yld.loadAgg rfl) rfl ?_)
        all_goals (refine nx_op ?_; (refine opw_callV rfl rfl rfl (sp134 e nm c (hnm := ⟨by simpa using hnm.mem⟩)) inferInstance rfl ?_; rintro _ _ ⟨rfl, rfl⟩; simp only [List.nil_append, hp]))
        all_goals (refine nx_nil ?_; refine kp_code_normal ?_)
        all_goals (refine nx_cond rfl (fun hc => ?_) (fun hc => ?_))
        all_goals (first | (exact Bool.noConfusion (hc.symm.trans (by first | rfl | assumption) : true = false)) | (exact Bool.noConfusion (hc.symm.trans (by first | rfl | assumption) : false = true)) | (all_goals (refine nx_seq ?_; refine nx_region ?_; refine nx_op ?_; refine opw_yld (Yld.move rfl) rfl ?_; refine nx_op ?_; refine opw_yld (Yld.assign rfl) rfl ?_; refine nx_nil ?_; refine kp_code_normal ?_; refine nx_ret ?_; refine kp_blk_ret ?_; refine kp_code_ret ?_; refine kp_loop_ret ?_; refine kp_blk_ret ?_; refine kp_code_ret ?_)) | (all_goals refine nx_skip ?_))
        all_goals (refine kp_blk_normal ?_; refine kp_code_normal ?_; refine nx_region ?_)
        all_goals (refine nx_op ?_; (first | refine opw_yld (Yld.addI rfl rfl (by omega) (by omega)) rfl ?_ | refine opw_yld (Yld.add rfl rfl) rfl ?_))
        all_goals (refine nx_op ?_; refine opw_yld (Yld.move rfl) rfl ?_; refine nx_nil ?_)
        all_goals (refine nx_round ⟨i + 1, by omega, rfl, fun j e' hj h' => (by rcases Nat.lt_or_ge j i with h | h; exact hall j e' h h'; obtain rfl : j = i := (by omega); rw [he] at h'; cases h'; exact hp), rfl, rfl⟩ (by omega) (by repeat' (first | exact .nil | refine .cons rfl ?_)) inferInstance)
    · have hb : decide ((i : Int) < (l.length : Int)) = false := by simp; omega
      all_goals (refine nx_seq ?_; refine nx_region ?_; refine nx_op ?_; refine opw_yld (Yld.cmp rfl rfl rfl) rfl ?_; refine nx_nil ?_; refine kp_code_normal ?_; refine nx_seq ?_)
      all_goals (refine nx_cond rfl (fun hc => ?_) (fun hc => ?_))
      all_goals (first | (exact Bool.noConfusion (hc.symm.trans (by first | rfl | assumption) : true = false)) | (exact Bool.noConfusion (hc.symm.trans (by first | rfl | assumption) : false = true)) | (all_goals refine nx_skip ?_) | (all_goals (refine nx_exit ?_; refine kp_code_exit ?_; refine kp_loop_exit ?_; refine kp_blk_exit rfl ?_; refine kp_code_normal ?_; refine nx_seq ?_; refine nx_region ?_; refine nx_op ?_; refine opw_yld (Yld.assign rfl) rfl ?_; refine nx_nil ?_; refine kp_code_normal ?_; refine nx_ret ?_); all_goals (exact res1 (by first | exact .inl rfl | exact .inr rfl) Tryd.results133 rfl [] inferInstance ⟨by rw [find_all fun j e h => hall j e (by have := (List.getElem?_eq_some_iff.1 h).1; omega) h], rfl⟩)))
      all_goals (refine kp_code_normal ?_; refine nx_seq ?_; refine nx_block ?_; refine nx_seq ?_; refine nx_region ?_; refine nx_op ?_; refine opw_yld (Yld.move rfl) rfl ?_; refine nx_op ?_; refine opw_yld (Yld.assign rfl) rfl ?_; refine nx_nil ?_; refine kp_code_normal ?_; refine nx_seq ?_; refine nx_region ?_; refine nx_op ?_; refine opw_yld (Yld.move rfl) rfl ?_; refine nx_op ?_; refine opw_yld (Yld.move rfl) rfl ?_; refine nx_op ?_; refine opw_yld (Yld.move rfl) rfl ?_)
      all_goals (refine nx_op ?_; skip)
      all_goals (refine nx_op ?_; skip)
      all_goals (refine nx_op ?_; skip)
      all_goals (refine nx_nil ?_; refine kp_code_normal ?_)
      all_goals (refine nx_cond rfl (fun hc => ?_) (fun hc => ?_))
      all_goals (first | (exact Bool.noConfusion (hc.symm.trans (by first | rfl | assumption) : true = false)) | (exact Bool.noConfusion (hc.symm.trans (by first | rfl | assumption) : false = true)) | (all_goals (refine nx_seq ?_; refine nx_region ?_; refine nx_op ?_; refine opw_yld (Yld.move rfl) rfl ?_; refine nx_op ?_; refine opw_yld (Yld.assign rfl) rfl ?_; refine nx_nil ?_; refine kp_code_normal ?_; refine nx_ret ?_; refine kp_blk_ret ?_; refine kp_code_ret ?_; refine kp_loop_ret ?_; refine kp_blk_ret ?_; refine kp_code_ret ?_); all_goals (exact res1 (by first | exact .inl rfl | exact .inr rfl) Tryd.results133 rfl [] inferInstance ⟨by rw [find_all fun j e h => hall j e (by have := (List.getElem?_eq_some_iff.1 h).1; omega) h], rfl⟩)) | (all_goals refine nx_skip ?_))
      all_goals (refine kp_blk_normal ?_; refine kp_code_normal ?_; refine nx_region ?_)
      all_goals (refine nx_op ?_; (first | refine opw_yld (Yld.addI rfl rfl (by omega) (by omega)) rfl ?_ | refine opw_yld (Yld.add rfl rfl) rfl ?_))
      all_goals (refine nx_op ?_; refine opw_yld (Yld.move rfl) rfl ?_; refine nx_nil ?_)
      all_goals (skip)
end
end Go.Proofs.YtdobndclhbkooaaDoor
