/- Find, Parent, Info of a tree that is only read. Conditions: the tree lies in the memory that is kept. -/
import Derived.Test.YtdobndclhbkooaaDoorNd2
namespace Go.Proofs.YtdobndclhbkooaaDoor
open Go Go.SL
set_option maxRecDepth 100000
set_option linter.unusedVariables false

section
variable {F : Chunk} {T : Tr}
theorem InN.ro {x : Nd} (h : InN F x) : Ro F x.ev x.f.ents.length (entsV x.f.ents) := Own_ro h.ok.ents (by decide) fun y hy => h.sub y (by simp [Nd.chunk, hy])
theorem Ro.mono {F F' : Chunk} {v : Value} {m : Nat} {xs : List Value} (h : Ro F v m xs) (hF : ∀ y ∈ F, y ∈ F') : Ro F' v m xs := by
  rcases h with h | ⟨b, o, cap, cs, e, z, h1, h2, h3, h4⟩
  · exact .inl h
  · exact .inr ⟨b, o, cap, cs, e, z, h1, h2, hF _ h3, h4⟩

/-- at. -/
theorem sp104 {x : Nd} (hN : InN F x) (nm : ByteArray) : Sp Tryd.prog 104 [.pointer (some ⟨x.b, 0, none⟩), .string nm] F [] (fun v B => v = .int .i64 (idxE x.f.ents (bs nm)) ∧ B = []) := by
  have i1 := hN.blk
  refine sp_enter Tryd.func104 rfl Tryd.ntmps104 rfl (fun g => ?_)
  simp only [argFr, List.nil_append, Nat.reduceAdd]
  all_goals refine nx_seq ?_
  all_goals refine nx_region ?_
  all_goals (refine nx_op ?_; refine opw_alc (Alc.box rfl rfl) rfl (fun b3 => ?_))
  all_goals (refine nx_op ?_; refine opw_yld (Yld.assign rfl) rfl ?_)
  all_goals refine nx_nil ?_
  all_goals refine kp_code_normal ?_
  all_goals refine nx_seq ?_
  all_goals refine nx_region ?_
  all_goals (refine nx_op ?_; refine opw_yld (Yld.move rfl) rfl ?_)
  all_goals (refine nx_op ?_; refine opw_yld (Yld.nilCheck rfl) rfl ?_)
  all_goals (refine nx_op ?_; refine opw_yld (Yld.fieldAddr rfl) rfl ?_)
  all_goals (refine nx_op ?_; refine opw_yld (Yld.load rfl) rfl ?_)
  all_goals (refine nx_op ?_; refine opw_yld (Yld.makeFunc rfl rfl) rfl ?_)
  all_goals (refine nx_op ?_; (refine opw_call rfl (sp133 (hN.ro.mono (fun y hy => by simp [hy])) hN.ok.small.1 nm b3 (hnm := ⟨by simp⟩)) inferInstance rfl ?_; rintro _ _ ⟨rfl, rfl⟩; simp only [List.nil_append]))
  all_goals (refine nx_op ?_; refine opw_yld (Yld.assign rfl) rfl ?_)
  all_goals refine nx_nil ?_
  all_goals refine kp_code_normal ?_
  all_goals refine nx_ret ?_
  all_goals (exact res1 (by first | exact .inl rfl | exact .inr rfl) Tryd.results104 rfl [] inferInstance ⟨rfl, rfl⟩)

theorem nthE {l : List Ent} {tl : List Value} {k : Nat} {e : Ent} (h : l[k]? = some e) :
    NthL (entsV l ++ tl) (k * 3) (.string e.name) ∧ NthL (entsV l ++ tl) (k * 3 + 1) (.int .i64 e.node) ∧ NthL (entsV l ++ tl) (k * 3 + 2) (.int .i64 e.kind) := by
  obtain ⟨hlt, hg⟩ := List.getElem?_eq_some_iff.1 h
  have h2 : l.drop k = e :: l.drop (k + 1) := by rw [List.drop_eq_getElem_cons hlt, hg]
  have h3 := entsV_drop l k
  rw [h2, entsV_cons] at h3
  have hl := entsV_length l
  have key : ∀ j v, j < 3 → (entV e)[j]? = some v → NthL (entsV l ++ tl) (k * 3 + j) v := fun j v hj hv => ⟨by
    rw [List.getElem?_append_left (by omega), ← List.getElem?_drop, h3, List.getElem?_append_left (by simpa [entV] using hj)]
    exact hv⟩
  exact ⟨key 0 _ (by decide) rfl, key 1 _ (by decide) rfl, key 2 _ (by decide) rfl⟩

theorem idxE_cases (l : List Ent) (nm : List UInt8) : (l.findIdx? (hasName nm) = none ∧ idxE l nm = -1) ∨ ∃ k e, l.findIdx? (hasName nm) = some k ∧ idxE l nm = (k : Nat) ∧ l[k]? = some e ∧ k < l.length := by
  unfold idxE
  cases h : l.findIdx? (hasName nm) with
  | none => exact .inl ⟨rfl, rfl⟩
  | some k =>
    have := (List.findIdx?_eq_some_iff_getElem.1 h).1
    exact .inr ⟨k, l[k], rfl, rfl, List.getElem?_eq_getElem this, this⟩

/-- A slice with its own array that holds an element is no nil. -/
theorem Own_some {e sz m : Nat} {v : Value} {xs : List Value} {c : Chunk} (h : Own e sz v m xs c) (hm : 0 < m) : ∃ b cap tl, v = .slice (some ⟨b, 0, none⟩) m cap ∧ c = [(b, .cells (xs ++ tl).toArray e (0, 0))] ∧ m ≤ cap := by
  rcases h.2 with ⟨_, h0, _⟩ | ⟨b, cap, tl, h1, h2, h3, _⟩
  · omega
  · exact ⟨b, cap, tl, h1, h2, h3⟩

/-- Parent. -/
def parentI (S : List Nd) (n : Int) : Int := match fnd S n with
  | none => 0
  | some x => if x.f.kind = 2 then (if x.f.parent = 0 then n else x.f.parent) else 0
theorem sp20n (n : Int) (F : Chunk) : Sp Tryd.prog 20 [.pointer none, .int .i64 n] F [] (fun v B => v = .int .i64 0 ∧ B = []) := by
  refine sp_enter Tryd.func20 rfl Tryd.ntmps20 rfl (fun g => ?_)
  simp only [argFr, List.nil_append, Nat.reduceAdd]
  all_goals refine nx_seq ?_
  all_goals refine nx_region ?_
  all_goals (refine nx_op ?_; refine opw_yld (Yld.assign rfl) rfl ?_)
  all_goals refine nx_nil ?_
  all_goals refine kp_code_normal ?_
  all_goals refine nx_seq ?_
  all_goals refine nx_region ?_
  all_goals (refine nx_op ?_; refine opw_yld (Yld.move rfl) rfl ?_)
  all_goals (refine nx_op ?_; refine opw_yld (Yld.move rfl) rfl ?_)
  all_goals (refine nx_op ?_; (refine opw_call rfl (sp65n _ _) inferInstance rfl ?_; rintro _ _ ⟨rfl, rfl⟩; simp only [List.nil_append]))
  all_goals (refine nx_op ?_; refine opw_yld (Yld.move rfl) rfl ?_)
  all_goals (refine nx_op ?_; refine opw_yld (Yld.extract rfl rfl) rfl ?_)
  all_goals (refine nx_op ?_; refine opw_yld (Yld.extract rfl rfl) rfl ?_)
  all_goals (refine nx_op ?_; refine opw_yld (Yld.assign rfl) rfl ?_)
  all_goals (refine nx_op ?_; refine opw_yld (Yld.assign rfl) rfl ?_)
  all_goals refine nx_nil ?_
  all_goals refine kp_code_normal ?_
  all_goals refine nx_seq ?_
  all_goals refine nx_block ?_
  all_goals refine nx_seq ?_
  all_goals refine nx_region ?_
  all_goals (refine nx_op ?_; refine opw_yld (Yld.move rfl) rfl ?_)
  all_goals (refine nx_op ?_; refine opw_yld (Yld.cmp rfl rfl rfl) rfl ?_)
  all_goals (refine nx_op ?_; refine opw_yld (Yld.assign rfl) rfl ?_)
  all_goals refine nx_nil ?_
  all_goals refine kp_code_normal ?_
  all_goals (refine nx_cond rfl (fun hc => ?_) (fun hc => ?_))
  all_goals (first | (exact Bool.noConfusion (hc.symm.trans (by first | rfl | assumption) : true = false)) | (exact Bool.noConfusion (hc.symm.trans (by first | rfl | assumption) : false = true)) | (all_goals refine nx_seq ?_; all_goals refine nx_region ?_; all_goals (refine nx_op ?_; refine opw_yld (Yld.assign rfl) rfl ?_); all_goals refine nx_nil ?_; all_goals refine kp_code_normal ?_; all_goals refine nx_ret ?_; all_goals refine kp_blk_ret ?_; all_goals refine kp_code_ret ?_; all_goals (exact res1 (by first | exact .inl rfl | exact .inr rfl) Tryd.results20 rfl [] inferInstance ⟨rfl, rfl⟩)) | (all_goals refine nx_seq ?_; all_goals refine nx_region ?_; all_goals (refine nx_op ?_; refine opw_yld (Yld.move rfl) rfl ?_); all_goals (refine nx_op ?_; refine opw_yld (Yld.nilCheck rfl) rfl ?_); all_goals (refine nx_op ?_; refine opw_yld (Yld.fieldAddr rfl) rfl ?_); all_goals (refine nx_op ?_; refine opw_yld (Yld.load rfl) rfl ?_); all_goals (refine nx_op ?_; refine opw_yld (Yld.cmp rfl rfl rfl) rfl ?_); all_goals (refine nx_op ?_; refine opw_yld (Yld.assign rfl) rfl ?_); all_goals refine nx_nil ?_; all_goals refine kp_code_normal ?_; all_goals (refine nx_cond rfl (fun hc => ?_) (fun hc => ?_)); all_goals (first | (exact Bool.noConfusion (hc.symm.trans (by first | rfl | assumption) : true = false)) | (exact Bool.noConfusion (hc.symm.trans (by first | rfl | assumption) : false = true)) | (all_goals refine nx_seq ?_; all_goals refine nx_region ?_; all_goals (refine nx_op ?_; refine opw_yld (Yld.move rfl) rfl ?_); all_goals (refine nx_op ?_; refine opw_yld (Yld.assign rfl) rfl ?_); all_goals refine nx_nil ?_; all_goals refine kp_code_normal ?_; all_goals refine nx_ret ?_; all_goals refine kp_blk_ret ?_; all_goals refine kp_code_ret ?_; all_goals (exact res1 (by first | exact .inl rfl | exact .inr rfl) Tryd.results20 rfl [] inferInstance ⟨rfl, rfl⟩)) | (all_goals refine nx_skip ?_))))
  all_goals refine kp_blk_normal ?_
  all_goals refine kp_code_normal ?_
  all_goals refine nx_seq ?_
  all_goals refine nx_region ?_
  all_goals (refine nx_op ?_; refine opw_yld (Yld.move rfl) rfl ?_)
  all_goals (refine nx_op ?_; refine opw_yld (Yld.nilCheck rfl) rfl ?_)
  all_goals (refine nx_op ?_; refine opw_yld (Yld.fieldAddr rfl) rfl ?_)
  all_goals (refine nx_op ?_; refine opw_yld (Yld.load rfl) rfl ?_)
  all_goals (refine nx_op ?_; refine opw_yld (Yld.assign rfl) rfl ?_)
  all_goals refine nx_nil ?_
  all_goals refine kp_code_normal ?_
  all_goals refine nx_ret ?_
  all_goals (exact res1 (by first | exact .inl rfl | exact .inr rfl) Tryd.results20 rfl [] inferInstance ⟨rfl, rfl⟩)
theorem sp20 (hT : InT F T) (n : Int) : Sp Tryd.prog 20 [.pointer (some ⟨T.t, 0, none⟩), .int .i64 n] F [] (fun v B => v = .int .i64 (parentI T.S n) ∧ B = []) := by
  refine sp_enter Tryd.func20 rfl Tryd.ntmps20 rfl (fun g => ?_)
  simp only [argFr, List.nil_append, Nat.reduceAdd]
  cases hf : fnd T.S n with
  | none =>
    all_goals refine nx_seq ?_
    all_goals refine nx_region ?_
    all_goals (refine nx_op ?_; refine opw_yld (Yld.assign rfl) rfl ?_)
    all_goals refine nx_nil ?_
    all_goals refine kp_code_normal ?_
    all_goals refine nx_seq ?_
    all_goals refine nx_region ?_
    all_goals (refine nx_op ?_; refine opw_yld (Yld.move rfl) rfl ?_)
    all_goals (refine nx_op ?_; refine opw_yld (Yld.move rfl) rfl ?_)
    all_goals (refine nx_op ?_; (refine opw_call rfl (sp65 (by simpa using hT) _) inferInstance rfl ?_; rintro _ _ ⟨rfl, rfl⟩; simp only [List.nil_append, dirV, hf]))
    all_goals (refine nx_op ?_; refine opw_yld (Yld.move rfl) rfl ?_)
    all_goals (refine nx_op ?_; refine opw_yld (Yld.extract rfl rfl) rfl ?_)
    all_goals (refine nx_op ?_; refine opw_yld (Yld.extract rfl rfl) rfl ?_)
    all_goals (refine nx_op ?_; refine opw_yld (Yld.assign rfl) rfl ?_)
    all_goals (refine nx_op ?_; refine opw_yld (Yld.assign rfl) rfl ?_)
    all_goals refine nx_nil ?_
    all_goals refine kp_code_normal ?_
    all_goals refine nx_seq ?_
    all_goals refine nx_block ?_
    all_goals refine nx_seq ?_
    all_goals refine nx_region ?_
    all_goals (refine nx_op ?_; refine opw_yld (Yld.move rfl) rfl ?_)
    all_goals (refine nx_op ?_; refine opw_yld (Yld.cmp rfl rfl rfl) rfl ?_)
    all_goals (refine nx_op ?_; refine opw_yld (Yld.assign rfl) rfl ?_)
    all_goals refine nx_nil ?_
    all_goals refine kp_code_normal ?_
    all_goals (refine nx_cond rfl (fun hc => ?_) (fun hc => ?_))
    all_goals (first | (exact Bool.noConfusion (hc.symm.trans (by first | rfl | assumption) : true = false)) | (exact Bool.noConfusion (hc.symm.trans (by first | rfl | assumption) : false = true)) | (all_goals refine nx_seq ?_; all_goals refine nx_region ?_; all_goals (refine nx_op ?_; refine opw_yld (Yld.assign rfl) rfl ?_); all_goals refine nx_nil ?_; all_goals refine kp_code_normal ?_; all_goals refine nx_ret ?_; all_goals refine kp_blk_ret ?_; all_goals refine kp_code_ret ?_; all_goals (exact res1 (by first | exact .inl rfl | exact .inr rfl) Tryd.results20 rfl [] inferInstance ⟨by simp [parentI, hf], rfl⟩)) | (all_goals refine nx_seq ?_; all_goals refine nx_region ?_; all_goals (refine nx_op ?_; refine opw_yld (Yld.move rfl) rfl ?_); all_goals (refine nx_op ?_; refine opw_yld (Yld.nilCheck rfl) rfl ?_); all_goals (refine nx_op ?_; refine opw_yld (Yld.fieldAddr rfl) rfl ?_); all_goals (refine nx_op ?_; refine opw_yld (Yld.load rfl) rfl ?_); all_goals (refine nx_op ?_; refine opw_yld (Yld.cmp rfl rfl rfl) rfl ?_); all_goals (refine nx_op ?_; refine opw_yld (Yld.assign rfl) rfl ?_); all_goals refine nx_nil ?_; all_goals refine kp_code_normal ?_; all_goals (refine nx_cond rfl (fun hc => ?_) (fun hc => ?_)); all_goals (first | (exact Bool.noConfusion (hc.symm.trans (by first | rfl | assumption) : true = false)) | (exact Bool.noConfusion (hc.symm.trans (by first | rfl | assumption) : false = true)) | (all_goals refine nx_seq ?_; all_goals refine nx_region ?_; all_goals (refine nx_op ?_; refine opw_yld (Yld.move rfl) rfl ?_); all_goals (refine nx_op ?_; refine opw_yld (Yld.assign rfl) rfl ?_); all_goals refine nx_nil ?_; all_goals refine kp_code_normal ?_; all_goals refine nx_ret ?_; all_goals refine kp_blk_ret ?_; all_goals refine kp_code_ret ?_; all_goals (exact res1 (by first | exact .inl rfl | exact .inr rfl) Tryd.results20 rfl [] inferInstance ⟨by simp [parentI, hf], rfl⟩)) | (all_goals refine nx_skip ?_))))
    all_goals refine kp_blk_normal ?_
    all_goals refine kp_code_normal ?_
    all_goals refine nx_seq ?_
    all_goals refine nx_region ?_
    all_goals (refine nx_op ?_; refine opw_yld (Yld.move rfl) rfl ?_)
    all_goals (refine nx_op ?_; refine opw_yld (Yld.nilCheck rfl) rfl ?_)
    all_goals (refine nx_op ?_; refine opw_yld (Yld.fieldAddr rfl) rfl ?_)
    all_goals (refine nx_op ?_; refine opw_yld (Yld.load rfl) rfl ?_)
    all_goals (refine nx_op ?_; refine opw_yld (Yld.assign rfl) rfl ?_)
    all_goals refine nx_nil ?_
    all_goals refine kp_code_normal ?_
    all_goals refine nx_ret ?_
    all_goals (exact res1 (by first | exact .inl rfl | exact .inr rfl) Tryd.results20 rfl [] inferInstance ⟨by simp [parentI, hf], rfl⟩)
  | some x =>
    have hN := hT.inN (fnd_mem hf).1
    have i1 := hN.blk
    by_cases hk : x.f.kind = 2
    · all_goals refine nx_seq ?_
      all_goals refine nx_region ?_
      all_goals (refine nx_op ?_; refine opw_yld (Yld.assign rfl) rfl ?_)
      all_goals refine nx_nil ?_
      all_goals refine kp_code_normal ?_
      all_goals refine nx_seq ?_
      all_goals refine nx_region ?_
      all_goals (refine nx_op ?_; refine opw_yld (Yld.move rfl) rfl ?_)
      all_goals (refine nx_op ?_; refine opw_yld (Yld.move rfl) rfl ?_)
      all_goals (refine nx_op ?_; (refine opw_call rfl (sp65 (by simpa using hT) _) inferInstance rfl ?_; rintro _ _ ⟨rfl, rfl⟩; simp only [List.nil_append, dirV, hf, hk, if_true]))
      all_goals (refine nx_op ?_; refine opw_yld (Yld.move rfl) rfl ?_)
      all_goals (refine nx_op ?_; refine opw_yld (Yld.extract rfl rfl) rfl ?_)
      all_goals (refine nx_op ?_; refine opw_yld (Yld.extract rfl rfl) rfl ?_)
      all_goals (refine nx_op ?_; refine opw_yld (Yld.assign rfl) rfl ?_)
      all_goals (refine nx_op ?_; refine opw_yld (Yld.assign rfl) rfl ?_)
      all_goals refine nx_nil ?_
      all_goals refine kp_code_normal ?_
      all_goals refine nx_seq ?_
      all_goals refine nx_block ?_
      all_goals refine nx_seq ?_
      all_goals refine nx_region ?_
      all_goals (refine nx_op ?_; refine opw_yld (Yld.move rfl) rfl ?_)
      all_goals (refine nx_op ?_; refine opw_yld (Yld.cmp rfl rfl rfl) rfl ?_)
      all_goals (refine nx_op ?_; refine opw_yld (Yld.assign rfl) rfl ?_)
      all_goals refine nx_nil ?_
      all_goals refine kp_code_normal ?_
      all_goals (refine nx_cond rfl (fun hc => ?_) (fun hc => ?_))
      all_goals (first | (exact Bool.noConfusion (hc.symm.trans (by first | rfl | assumption) : true = false)) | (exact Bool.noConfusion (hc.symm.trans (by first | rfl | assumption) : false = true)) | (all_goals refine nx_seq ?_; all_goals refine nx_region ?_; all_goals (refine nx_op ?_; refine opw_yld (Yld.assign rfl) rfl ?_); all_goals refine nx_nil ?_; all_goals refine kp_code_normal ?_; all_goals refine nx_ret ?_; all_goals refine kp_blk_ret ?_; all_goals refine kp_code_ret ?_; all_goals (exact res1 (by first | exact .inl rfl | exact .inr rfl) Tryd.results20 rfl [] inferInstance ⟨by simp_all [parentI], rfl⟩)) | (all_goals refine nx_seq ?_; all_goals refine nx_region ?_; all_goals (refine nx_op ?_; refine opw_yld (Yld.move rfl) rfl ?_); all_goals (refine nx_op ?_; refine opw_yld (Yld.nilCheck rfl) rfl ?_); all_goals (refine nx_op ?_; refine opw_yld (Yld.fieldAddr rfl) rfl ?_); all_goals (refine nx_op ?_; refine opw_yld (Yld.load rfl) rfl ?_); all_goals (refine nx_op ?_; refine opw_yld (Yld.cmp rfl rfl rfl) rfl ?_); all_goals (refine nx_op ?_; refine opw_yld (Yld.assign rfl) rfl ?_); all_goals refine nx_nil ?_; all_goals refine kp_code_normal ?_; all_goals (refine nx_cond rfl (fun hc => ?_) (fun hc => ?_)); all_goals (first | (exact Bool.noConfusion (hc.symm.trans (by first | rfl | assumption) : true = false)) | (exact Bool.noConfusion (hc.symm.trans (by first | rfl | assumption) : false = true)) | (all_goals refine nx_seq ?_; all_goals refine nx_region ?_; all_goals (refine nx_op ?_; refine opw_yld (Yld.move rfl) rfl ?_); all_goals (refine nx_op ?_; refine opw_yld (Yld.assign rfl) rfl ?_); all_goals refine nx_nil ?_; all_goals refine kp_code_normal ?_; all_goals refine nx_ret ?_; all_goals refine kp_blk_ret ?_; all_goals refine kp_code_ret ?_; all_goals (exact res1 (by first | exact .inl rfl | exact .inr rfl) Tryd.results20 rfl [] inferInstance ⟨by simp_all [parentI], rfl⟩)) | (all_goals refine nx_skip ?_))))
      all_goals refine kp_blk_normal ?_
      all_goals refine kp_code_normal ?_
      all_goals refine nx_seq ?_
      all_goals refine nx_region ?_
      all_goals (refine nx_op ?_; refine opw_yld (Yld.move rfl) rfl ?_)
      all_goals (refine nx_op ?_; refine opw_yld (Yld.nilCheck rfl) rfl ?_)
      all_goals (refine nx_op ?_; refine opw_yld (Yld.fieldAddr rfl) rfl ?_)
      all_goals (refine nx_op ?_; refine opw_yld (Yld.load rfl) rfl ?_)
      all_goals (refine nx_op ?_; refine opw_yld (Yld.assign rfl) rfl ?_)
      all_goals refine nx_nil ?_
      all_goals refine kp_code_normal ?_
      all_goals refine nx_ret ?_
      all_goals (exact res1 (by first | exact .inl rfl | exact .inr rfl) Tryd.results20 rfl [] inferInstance ⟨by simp_all [parentI], rfl⟩)
    · all_goals refine nx_seq ?_
      all_goals refine nx_region ?_
      all_goals (refine nx_op ?_; refine opw_yld (Yld.assign rfl) rfl ?_)
      all_goals refine nx_nil ?_
      all_goals refine kp_code_normal ?_
      all_goals refine nx_seq ?_
      all_goals refine nx_region ?_
      all_goals (refine nx_op ?_; refine opw_yld (Yld.move rfl) rfl ?_)
      all_goals (refine nx_op ?_; refine opw_yld (Yld.move rfl) rfl ?_)
      all_goals (refine nx_op ?_; (refine opw_call rfl (sp65 (by simpa using hT) _) inferInstance rfl ?_; rintro _ _ ⟨rfl, rfl⟩; simp only [List.nil_append, dirV, hf, hk, if_false]))
      all_goals (refine nx_op ?_; refine opw_yld (Yld.move rfl) rfl ?_)
      all_goals (refine nx_op ?_; refine opw_yld (Yld.extract rfl rfl) rfl ?_)
      all_goals (refine nx_op ?_; refine opw_yld (Yld.extract rfl rfl) rfl ?_)
      all_goals (refine nx_op ?_; refine opw_yld (Yld.assign rfl) rfl ?_)
      all_goals (refine nx_op ?_; refine opw_yld (Yld.assign rfl) rfl ?_)
      all_goals refine nx_nil ?_
      all_goals refine kp_code_normal ?_
      all_goals refine nx_seq ?_
      all_goals refine nx_block ?_
      all_goals refine nx_seq ?_
      all_goals refine nx_region ?_
      all_goals (refine nx_op ?_; refine opw_yld (Yld.move rfl) rfl ?_)
      all_goals (refine nx_op ?_; refine opw_yld (Yld.cmp rfl rfl rfl) rfl ?_)
      all_goals (refine nx_op ?_; refine opw_yld (Yld.assign rfl) rfl ?_)
      all_goals refine nx_nil ?_
      all_goals refine kp_code_normal ?_
      all_goals (refine nx_cond rfl (fun hc => ?_) (fun hc => ?_))
      all_goals (first | (exact Bool.noConfusion (hc.symm.trans (by first | rfl | assumption) : true = false)) | (exact Bool.noConfusion (hc.symm.trans (by first | rfl | assumption) : false = true)) | (all_goals refine nx_seq ?_; all_goals refine nx_region ?_; all_goals (refine nx_op ?_; refine opw_yld (Yld.assign rfl) rfl ?_); all_goals refine nx_nil ?_; all_goals refine kp_code_normal ?_; all_goals refine nx_ret ?_; all_goals refine kp_blk_ret ?_; all_goals refine kp_code_ret ?_; all_goals (exact res1 (by first | exact .inl rfl | exact .inr rfl) Tryd.results20 rfl [] inferInstance ⟨by simp_all [parentI], rfl⟩)) | (all_goals refine nx_seq ?_; all_goals refine nx_region ?_; all_goals (refine nx_op ?_; refine opw_yld (Yld.move rfl) rfl ?_); all_goals (refine nx_op ?_; refine opw_yld (Yld.nilCheck rfl) rfl ?_); all_goals (refine nx_op ?_; refine opw_yld (Yld.fieldAddr rfl) rfl ?_); all_goals (refine nx_op ?_; refine opw_yld (Yld.load rfl) rfl ?_); all_goals (refine nx_op ?_; refine opw_yld (Yld.cmp rfl rfl rfl) rfl ?_); all_goals (refine nx_op ?_; refine opw_yld (Yld.assign rfl) rfl ?_); all_goals refine nx_nil ?_; all_goals refine kp_code_normal ?_; all_goals (refine nx_cond rfl (fun hc => ?_) (fun hc => ?_)); all_goals (first | (exact Bool.noConfusion (hc.symm.trans (by first | rfl | assumption) : true = false)) | (exact Bool.noConfusion (hc.symm.trans (by first | rfl | assumption) : false = true)) | (all_goals refine nx_seq ?_; all_goals refine nx_region ?_; all_goals (refine nx_op ?_; refine opw_yld (Yld.move rfl) rfl ?_); all_goals (refine nx_op ?_; refine opw_yld (Yld.assign rfl) rfl ?_); all_goals refine nx_nil ?_; all_goals refine kp_code_normal ?_; all_goals refine nx_ret ?_; all_goals refine kp_blk_ret ?_; all_goals refine kp_code_ret ?_; all_goals (exact res1 (by first | exact .inl rfl | exact .inr rfl) Tryd.results20 rfl [] inferInstance ⟨by simp_all [parentI], rfl⟩)) | (all_goals refine nx_skip ?_))))
      all_goals refine kp_blk_normal ?_
      all_goals refine kp_code_normal ?_
      all_goals refine nx_seq ?_
      all_goals refine nx_region ?_
      all_goals (refine nx_op ?_; refine opw_yld (Yld.move rfl) rfl ?_)
      all_goals (refine nx_op ?_; refine opw_yld (Yld.nilCheck rfl) rfl ?_)
      all_goals (refine nx_op ?_; refine opw_yld (Yld.fieldAddr rfl) rfl ?_)
      all_goals (refine nx_op ?_; refine opw_yld (Yld.load rfl) rfl ?_)
      all_goals (refine nx_op ?_; refine opw_yld (Yld.assign rfl) rfl ?_)
      all_goals refine nx_nil ?_
      all_goals refine kp_code_normal ?_
      all_goals refine nx_ret ?_
      all_goals (exact res1 (by first | exact .inl rfl | exact .inr rfl) Tryd.results20 rfl [] inferInstance ⟨by simp_all [parentI], rfl⟩)

/-- Find. -/
def entR (l : List Ent) (nm : List UInt8) : Int × Int := match l.findIdx? (hasName nm) with
  | none => (0, 2)
  | some k => ((l[k]?.map (·.node)).getD 0, 0)
def findR (S : List Nd) (n : Int) (nm : List UInt8) : Int × Int := match fnd S n with
  | none => (0, 2)
  | some x => if x.f.kind = 2 then (bif nm == [46] then (n, 0) else bif nm == [46, 46] then (parentI S n, 0) else entR x.f.ents nm) else (0, 20)
def pairV (p : Int × Int) : Value := .tuple #[.int .i64 p.1, .int .i64 p.2]
theorem sp61n (n : Int) (nm : ByteArray) (F : Chunk) : Sp Tryd.prog 61 [.pointer none, .int .i64 n, .string nm] F [] (fun v B => v = pairV (0, 2) ∧ B = []) := by
  refine sp_enter Tryd.func61 rfl Tryd.ntmps61 rfl (fun g => ?_)
  simp only [argFr, List.nil_append, Nat.reduceAdd]
  all_goals refine nx_seq ?_
  all_goals refine nx_region ?_
  all_goals (refine nx_op ?_; refine opw_yld (Yld.assign rfl) rfl ?_)
  all_goals (refine nx_op ?_; refine opw_yld (Yld.assign rfl) rfl ?_)
  all_goals refine nx_nil ?_
  all_goals refine kp_code_normal ?_
  all_goals refine nx_seq ?_
  all_goals refine nx_region ?_
  all_goals (refine nx_op ?_; refine opw_yld (Yld.move rfl) rfl ?_)
  all_goals (refine nx_op ?_; refine opw_yld (Yld.move rfl) rfl ?_)
  all_goals (refine nx_op ?_; (refine opw_call rfl (sp65n _ _) inferInstance rfl ?_; rintro _ _ ⟨rfl, rfl⟩; simp only [List.nil_append]))
  all_goals (refine nx_op ?_; refine opw_yld (Yld.move rfl) rfl ?_)
  all_goals (refine nx_op ?_; refine opw_yld (Yld.extract rfl rfl) rfl ?_)
  all_goals (refine nx_op ?_; refine opw_yld (Yld.extract rfl rfl) rfl ?_)
  all_goals (refine nx_op ?_; refine opw_yld (Yld.assign rfl) rfl ?_)
  all_goals (refine nx_op ?_; refine opw_yld (Yld.assign rfl) rfl ?_)
  all_goals refine nx_nil ?_
  all_goals refine kp_code_normal ?_
  all_goals refine nx_seq ?_
  all_goals refine nx_seq ?_
  all_goals refine nx_region ?_
  all_goals (refine nx_op ?_; refine opw_yld (Yld.move rfl) rfl ?_)
  all_goals (refine nx_op ?_; refine opw_yld (Yld.cmp rfl rfl rfl) rfl ?_)
  all_goals refine nx_nil ?_
  all_goals refine kp_code_normal ?_
  all_goals (refine nx_cond rfl (fun hc => ?_) (fun hc => ?_))
  all_goals (first | (exact Bool.noConfusion (hc.symm.trans (by first | rfl | assumption) : true = false)) | (exact Bool.noConfusion (hc.symm.trans (by first | rfl | assumption) : false = true)) | (all_goals refine nx_seq ?_; all_goals refine nx_region ?_; all_goals (refine nx_op ?_; refine opw_yld (Yld.move rfl) rfl ?_); all_goals (refine nx_op ?_; refine opw_yld (Yld.assign rfl) rfl ?_); all_goals (refine nx_op ?_; refine opw_yld (Yld.assign rfl) rfl ?_); all_goals refine nx_nil ?_; all_goals refine kp_code_normal ?_; all_goals refine nx_ret ?_; all_goals refine kp_code_ret ?_; all_goals (exact res2 (by first | exact .inl rfl | exact .inr rfl) Tryd.results61 rfl rfl [] inferInstance ⟨rfl, rfl⟩)) | (all_goals refine nx_skip ?_))
  all_goals refine kp_code_normal ?_
  all_goals refine nx_seq ?_
  all_goals refine nx_seq ?_
  all_goals refine nx_region ?_
  all_goals (refine nx_op ?_; refine opw_yld (Yld.move rfl) rfl ?_)
  all_goals refine nx_nil ?_
  all_goals refine kp_code_normal ?_
  all_goals refine nx_block ?_
  all_goals refine nx_seq ?_
  all_goals refine nx_region ?_
  all_goals (refine nx_op ?_; refine opw_yld (Yld.eqS rfl rfl) rfl ?_)
  all_goals (refine nx_op ?_; refine opw_yld (Yld.assign rfl) rfl ?_)
  all_goals refine nx_nil ?_
  all_goals refine kp_code_normal ?_
  all_goals (refine nx_cond rfl (fun hc => ?_) (fun hc => ?_))
  all_goals (first | (exact Bool.noConfusion (hc.symm.trans (by first | rfl | assumption) : true = false)) | (exact Bool.noConfusion (hc.symm.trans (by first | rfl | assumption) : false = true)) | (all_goals refine nx_seq ?_; all_goals refine nx_region ?_; all_goals (refine nx_op ?_; refine opw_yld (Yld.move rfl) rfl ?_); all_goals (refine nx_op ?_; refine opw_yld (Yld.assign rfl) rfl ?_); all_goals (refine nx_op ?_; refine opw_yld (Yld.assign rfl) rfl ?_); all_goals refine nx_nil ?_; all_goals refine kp_code_normal ?_; all_goals refine nx_ret ?_; all_goals refine kp_blk_ret ?_; all_goals refine kp_code_ret ?_; all_goals (exact res2 (by first | exact .inl rfl | exact .inr rfl) Tryd.results61 rfl rfl [] inferInstance ⟨rfl, rfl⟩)) | (all_goals refine nx_seq ?_; all_goals refine nx_region ?_; all_goals (refine nx_op ?_; refine opw_yld (Yld.eqS rfl rfl) rfl ?_); all_goals (refine nx_op ?_; refine opw_yld (Yld.assign rfl) rfl ?_); all_goals refine nx_nil ?_; all_goals refine kp_code_normal ?_; all_goals (refine nx_cond rfl (fun hc => ?_) (fun hc => ?_)); all_goals (first | (exact Bool.noConfusion (hc.symm.trans (by first | rfl | assumption) : true = false)) | (exact Bool.noConfusion (hc.symm.trans (by first | rfl | assumption) : false = true)) | (all_goals refine nx_seq ?_; all_goals refine nx_region ?_; all_goals (refine nx_op ?_; refine opw_yld (Yld.move rfl) rfl ?_); all_goals (refine nx_op ?_; refine opw_yld (Yld.move rfl) rfl ?_); all_goals (refine nx_op ?_; fail "call 20: r8.2"); all_goals (refine nx_op ?_; refine opw_yld (Yld.assign rfl) rfl ?_); all_goals (refine nx_op ?_; refine opw_yld (Yld.assign rfl) rfl ?_); all_goals refine nx_nil ?_; all_goals refine kp_code_normal ?_; all_goals refine nx_ret ?_; all_goals refine kp_blk_ret ?_; all_goals refine kp_code_ret ?_; all_goals (exact res2 (by first | exact .inl rfl | exact .inr rfl) Tryd.results61 rfl rfl [] inferInstance ⟨rfl, rfl⟩)) | (all_goals refine nx_skip ?_))))
  all_goals refine kp_blk_normal ?_
  all_goals refine kp_code_normal ?_
  all_goals refine nx_seq ?_
  all_goals refine nx_region ?_
  all_goals (refine nx_op ?_; refine opw_yld (Yld.move rfl) rfl ?_)
  all_goals (refine nx_op ?_; refine opw_yld (Yld.move rfl) rfl ?_)
  all_goals (refine nx_op ?_; fail "call 104: r9.2")
  all_goals (refine nx_op ?_; refine opw_yld (Yld.assign rfl) rfl ?_)
  all_goals refine nx_nil ?_
  all_goals refine kp_code_normal ?_
  all_goals refine nx_seq ?_
  all_goals refine nx_seq ?_
  all_goals refine nx_region ?_
  all_goals (refine nx_op ?_; refine opw_yld (Yld.move rfl) rfl ?_)
  all_goals (refine nx_op ?_; refine opw_yld (Yld.cmp rfl rfl rfl) rfl ?_)
  all_goals refine nx_nil ?_
  all_goals refine kp_code_normal ?_
  all_goals (refine nx_cond rfl (fun hc => ?_) (fun hc => ?_))
  all_goals (first | (exact Bool.noConfusion (hc.symm.trans (by first | rfl | assumption) : true = false)) | (exact Bool.noConfusion (hc.symm.trans (by first | rfl | assumption) : false = true)) | (all_goals refine nx_seq ?_; all_goals refine nx_region ?_; all_goals (refine nx_op ?_; refine opw_yld (Yld.assign rfl) rfl ?_); all_goals (refine nx_op ?_; refine opw_yld (Yld.assign rfl) rfl ?_); all_goals refine nx_nil ?_; all_goals refine kp_code_normal ?_; all_goals refine nx_ret ?_; all_goals refine kp_code_ret ?_; all_goals (exact res2 (by first | exact .inl rfl | exact .inr rfl) Tryd.results61 rfl rfl [] inferInstance ⟨rfl, rfl⟩)) | (all_goals refine nx_skip ?_))
  all_goals refine kp_code_normal ?_
  all_goals refine nx_seq ?_
  all_goals refine nx_region ?_
  all_goals (refine nx_op ?_; refine opw_yld (Yld.move rfl) rfl ?_)
  all_goals (refine nx_op ?_; refine opw_yld (Yld.nilCheck rfl) rfl ?_)
  all_goals (refine nx_op ?_; refine opw_yld (Yld.fieldAddr rfl) rfl ?_)
  all_goals (refine nx_op ?_; refine opw_yld (Yld.load rfl) rfl ?_)
  all_goals (refine nx_op ?_; refine opw_yld (Yld.move rfl) rfl ?_)
  all_goals (refine nx_op ?_; refine opw_yld (Yld.indexAddr rfl rfl (by omega)) rfl ?_)
  all_goals (refine nx_op ?_; refine opw_yld (Yld.fieldAddr rfl) rfl ?_)
  all_goals (refine nx_op ?_; refine opw_yld (Yld.load rfl) rfl ?_)
  all_goals (refine nx_op ?_; refine opw_yld (Yld.assign rfl) rfl ?_)
  all_goals (refine nx_op ?_; refine opw_yld (Yld.assign rfl) rfl ?_)
  all_goals refine nx_nil ?_
  all_goals refine kp_code_normal ?_
  all_goals refine nx_ret ?_
  all_goals (exact res2 (by first | exact .inl rfl | exact .inr rfl) Tryd.results61 rfl rfl [] inferInstance ⟨rfl, rfl⟩)
theorem sp61 (hT : InT F T) (n : Int) (nm : ByteArray) : Sp Tryd.prog 61 [.pointer (some ⟨T.t, 0, none⟩), .int .i64 n, .string nm] F [] (fun v B => v = pairV (findR T.S n (bs nm)) ∧ B = []) := by
  refine sp_enter Tryd.func61 rfl Tryd.ntmps61 rfl (fun g => ?_)
  simp only [argFr, List.nil_append, Nat.reduceAdd]
  cases hf : fnd T.S n with
  | none =>
    all_goals refine nx_seq ?_
    all_goals refine nx_region ?_
    all_goals (refine nx_op ?_; refine opw_yld (Yld.assign rfl) rfl ?_)
    all_goals (refine nx_op ?_; refine opw_yld (Yld.assign rfl) rfl ?_)
    all_goals refine nx_nil ?_
    all_goals refine kp_code_normal ?_
    all_goals refine nx_seq ?_
    all_goals refine nx_region ?_
    all_goals (refine nx_op ?_; refine opw_yld (Yld.move rfl) rfl ?_)
    all_goals (refine nx_op ?_; refine opw_yld (Yld.move rfl) rfl ?_)
    all_goals (refine nx_op ?_; (refine opw_call rfl (sp65 (by simpa using hT) _) inferInstance rfl ?_; rintro _ _ ⟨rfl, rfl⟩; simp only [List.nil_append, dirV, hf]))
    all_goals (refine nx_op ?_; refine opw_yld (Yld.move rfl) rfl ?_)
    all_goals (refine nx_op ?_; refine opw_yld (Yld.extract rfl rfl) rfl ?_)
    all_goals (refine nx_op ?_; refine opw_yld (Yld.extract rfl rfl) rfl ?_)
    all_goals (refine nx_op ?_; refine opw_yld (Yld.assign rfl) rfl ?_)
    all_goals (refine nx_op ?_; refine opw_yld (Yld.assign rfl) rfl ?_)
    all_goals refine nx_nil ?_
    all_goals refine kp_code_normal ?_
    all_goals refine nx_seq ?_
    all_goals refine nx_seq ?_
    all_goals refine nx_region ?_
    all_goals (refine nx_op ?_; refine opw_yld (Yld.move rfl) rfl ?_)
    all_goals (refine nx_op ?_; refine opw_yld (Yld.cmp rfl rfl rfl) rfl ?_)
    all_goals refine nx_nil ?_
    all_goals refine kp_code_normal ?_
    all_goals (refine nx_cond rfl (fun hc => ?_) (fun hc => ?_))
    all_goals (first | (exact Bool.noConfusion (hc.symm.trans (by first | rfl | assumption) : true = false)) | (exact Bool.noConfusion (hc.symm.trans (by first | rfl | assumption) : false = true)) | (all_goals refine nx_seq ?_; all_goals refine nx_region ?_; all_goals (refine nx_op ?_; refine opw_yld (Yld.move rfl) rfl ?_); all_goals (refine nx_op ?_; refine opw_yld (Yld.assign rfl) rfl ?_); all_goals (refine nx_op ?_; refine opw_yld (Yld.assign rfl) rfl ?_); all_goals refine nx_nil ?_; all_goals refine kp_code_normal ?_; all_goals refine nx_ret ?_; all_goals refine kp_code_ret ?_; all_goals (exact res2 (by first | exact .inl rfl | exact .inr rfl) Tryd.results61 rfl rfl [] inferInstance ⟨by simp [findR, pairV, hf], rfl⟩)) | (all_goals refine nx_skip ?_))
    all_goals refine kp_code_normal ?_
    all_goals refine nx_seq ?_
    all_goals refine nx_seq ?_
    all_goals refine nx_region ?_
    all_goals (refine nx_op ?_; refine opw_yld (Yld.move rfl) rfl ?_)
    all_goals refine nx_nil ?_
    all_goals refine kp_code_normal ?_
    all_goals refine nx_block ?_
    all_goals refine nx_seq ?_
    all_goals refine nx_region ?_
    all_goals (refine nx_op ?_; refine opw_yld (Yld.eqS rfl rfl) rfl ?_)
    all_goals (refine nx_op ?_; refine opw_yld (Yld.assign rfl) rfl ?_)
    all_goals refine nx_nil ?_
    all_goals refine kp_code_normal ?_
    all_goals (refine nx_cond rfl (fun hc => ?_) (fun hc => ?_))
    all_goals (first | (exact Bool.noConfusion (hc.symm.trans (by first | rfl | assumption) : true = false)) | (exact Bool.noConfusion (hc.symm.trans (by first | rfl | assumption) : false = true)) | (all_goals refine nx_seq ?_; all_goals refine nx_region ?_; all_goals (refine nx_op ?_; refine opw_yld (Yld.move rfl) rfl ?_); all_goals (refine nx_op ?_; refine opw_yld (Yld.assign rfl) rfl ?_); all_goals (refine nx_op ?_; refine opw_yld (Yld.assign rfl) rfl ?_); all_goals refine nx_nil ?_; all_goals refine kp_code_normal ?_; all_goals refine nx_ret ?_; all_goals refine kp_blk_ret ?_; all_goals refine kp_code_ret ?_; all_goals (exact res2 (by first | exact .inl rfl | exact .inr rfl) Tryd.results61 rfl rfl [] inferInstance ⟨by simp [findR, pairV, hf], rfl⟩)) | (all_goals refine nx_seq ?_; all_goals refine nx_region ?_; all_goals (refine nx_op ?_; refine opw_yld (Yld.eqS rfl rfl) rfl ?_); all_goals (refine nx_op ?_; refine opw_yld (Yld.assign rfl) rfl ?_); all_goals refine nx_nil ?_; all_goals refine kp_code_normal ?_; all_goals (refine nx_cond rfl (fun hc => ?_) (fun hc => ?_)); all_goals (first | (exact Bool.noConfusion (hc.symm.trans (by first | rfl | assumption) : true = false)) | (exact Bool.noConfusion (hc.symm.trans (by first | rfl | assumption) : false = true)) | (all_goals refine nx_seq ?_; all_goals refine nx_region ?_; all_goals (refine nx_op ?_; refine opw_yld (Yld.move rfl) rfl ?_); all_goals (refine nx_op ?_; refine opw_yld (Yld.move rfl) rfl ?_); all_goals (refine nx_op ?_; fail "call 20: r8.2"); all_goals (refine nx_op ?_; refine opw_yld (Yld.assign rfl) rfl ?_); all_goals (refine nx_op ?_; refine opw_yld (Yld.assign rfl) rfl ?_); all_goals refine nx_nil ?_; all_goals refine kp_code_normal ?_; all_goals refine nx_ret ?_; all_goals refine kp_blk_ret ?_; all_goals refine kp_code_ret ?_; all_goals (exact res2 (by first | exact .inl rfl | exact .inr rfl) Tryd.results61 rfl rfl [] inferInstance ⟨by simp [findR, pairV, hf], rfl⟩)) | (all_goals refine nx_skip ?_))))
    all_goals refine kp_blk_normal ?_
    all_goals refine kp_code_normal ?_
    all_goals refine nx_seq ?_
    all_goals refine nx_region ?_
    all_goals (refine nx_op ?_; refine opw_yld (Yld.move rfl) rfl ?_)
    all_goals (refine nx_op ?_; refine opw_yld (Yld.move rfl) rfl ?_)
    all_goals (refine nx_op ?_; fail "call 104: r9.2")
    all_goals (refine nx_op ?_; refine opw_yld (Yld.assign rfl) rfl ?_)
    all_goals refine nx_nil ?_
    all_goals refine kp_code_normal ?_
    all_goals refine nx_seq ?_
    all_goals refine nx_seq ?_
    all_goals refine nx_region ?_
    all_goals (refine nx_op ?_; refine opw_yld (Yld.move rfl) rfl ?_)
    all_goals (refine nx_op ?_; refine opw_yld (Yld.cmp rfl rfl rfl) rfl ?_)
    all_goals refine nx_nil ?_
    all_goals refine kp_code_normal ?_
    all_goals (refine nx_cond rfl (fun hc => ?_) (fun hc => ?_))
    all_goals (first | (exact Bool.noConfusion (hc.symm.trans (by first | rfl | assumption) : true = false)) | (exact Bool.noConfusion (hc.symm.trans (by first | rfl | assumption) : false = true)) | (all_goals refine nx_seq ?_; all_goals refine nx_region ?_; all_goals (refine nx_op ?_; refine opw_yld (Yld.assign rfl) rfl ?_); all_goals (refine nx_op ?_; refine opw_yld (Yld.assign rfl) rfl ?_); all_goals refine nx_nil ?_; all_goals refine kp_code_normal ?_; all_goals refine nx_ret ?_; all_goals refine kp_code_ret ?_; all_goals (exact res2 (by first | exact .inl rfl | exact .inr rfl) Tryd.results61 rfl rfl [] inferInstance ⟨by simp [findR, pairV, hf], rfl⟩)) | (all_goals refine nx_skip ?_))
    all_goals refine kp_code_normal ?_
    all_goals refine nx_seq ?_
    all_goals refine nx_region ?_
    all_goals (refine nx_op ?_; refine opw_yld (Yld.move rfl) rfl ?_)
    all_goals (refine nx_op ?_; refine opw_yld (Yld.nilCheck rfl) rfl ?_)
    all_goals (refine nx_op ?_; refine opw_yld (Yld.fieldAddr rfl) rfl ?_)
    all_goals (refine nx_op ?_; refine opw_yld (Yld.load rfl) rfl ?_)
    all_goals (refine nx_op ?_; refine opw_yld (Yld.move rfl) rfl ?_)
    all_goals (refine nx_op ?_; refine opw_yld (Yld.indexAddr rfl rfl (by omega)) rfl ?_)
    all_goals (refine nx_op ?_; refine opw_yld (Yld.fieldAddr rfl) rfl ?_)
    all_goals (refine nx_op ?_; refine opw_yld (Yld.load rfl) rfl ?_)
    all_goals (refine nx_op ?_; refine opw_yld (Yld.assign rfl) rfl ?_)
    all_goals (refine nx_op ?_; refine opw_yld (Yld.assign rfl) rfl ?_)
    all_goals refine nx_nil ?_
    all_goals refine kp_code_normal ?_
    all_goals refine nx_ret ?_
    all_goals (exact res2 (by first | exact .inl rfl | exact .inr rfl) Tryd.results61 rfl rfl [] inferInstance ⟨by simp [findR, pairV, hf], rfl⟩)
  | some x =>
    have hN := hT.inN (fnd_mem hf).1
    have i1 := hN.blk
    by_cases hk : x.f.kind = 2
    · have e1 : findR T.S n (bs nm) = bif bs nm == [46] then (n, 0) else bif bs nm == [46, 46] then (parentI T.S n, 0) else entR x.f.ents (bs nm) := by simp [findR, hf, hk]
      rw [e1]
      cases hd : (bs nm == [46]) with
      | true =>
        simp only [cond_true]
        all_goals refine nx_seq ?_
        all_goals refine nx_region ?_
        all_goals (refine nx_op ?_; refine opw_yld (Yld.assign rfl) rfl ?_)
        all_goals (refine nx_op ?_; refine opw_yld (Yld.assign rfl) rfl ?_)
        all_goals refine nx_nil ?_
        all_goals refine kp_code_normal ?_
        all_goals refine nx_seq ?_
        all_goals refine nx_region ?_
        all_goals (refine nx_op ?_; refine opw_yld (Yld.move rfl) rfl ?_)
        all_goals (refine nx_op ?_; refine opw_yld (Yld.move rfl) rfl ?_)
        all_goals (refine nx_op ?_; (refine opw_call rfl (sp65 (by simpa using hT) _) inferInstance rfl ?_; rintro _ _ ⟨rfl, rfl⟩; simp only [List.nil_append, dirV, hf, hk, if_true]))
        all_goals (refine nx_op ?_; refine opw_yld (Yld.move rfl) rfl ?_)
        all_goals (refine nx_op ?_; refine opw_yld (Yld.extract rfl rfl) rfl ?_)
        all_goals (refine nx_op ?_; refine opw_yld (Yld.extract rfl rfl) rfl ?_)
        all_goals (refine nx_op ?_; refine opw_yld (Yld.assign rfl) rfl ?_)
        all_goals (refine nx_op ?_; refine opw_yld (Yld.assign rfl) rfl ?_)
        all_goals refine nx_nil ?_
        all_goals refine kp_code_normal ?_
        all_goals refine nx_seq ?_
        all_goals refine nx_seq ?_
        all_goals refine nx_region ?_
        all_goals (refine nx_op ?_; refine opw_yld (Yld.move rfl) rfl ?_)
        all_goals (refine nx_op ?_; refine opw_yld (Yld.cmp rfl rfl rfl) rfl ?_)
        all_goals refine nx_nil ?_
        all_goals refine kp_code_normal ?_
        all_goals (refine nx_cond rfl (fun hc => ?_) (fun hc => ?_))
        all_goals (first | (exact Bool.noConfusion (hc.symm.trans (by first | rfl | assumption) : true = false)) | (exact Bool.noConfusion (hc.symm.trans (by first | rfl | assumption) : false = true)) | (all_goals refine nx_seq ?_; all_goals refine nx_region ?_; all_goals (refine nx_op ?_; refine opw_yld (Yld.move rfl) rfl ?_); all_goals (refine nx_op ?_; refine opw_yld (Yld.assign rfl) rfl ?_); all_goals (refine nx_op ?_; refine opw_yld (Yld.assign rfl) rfl ?_); all_goals refine nx_nil ?_; all_goals refine kp_code_normal ?_; all_goals refine nx_ret ?_; all_goals refine kp_code_ret ?_; all_goals (exact res2 (by first | exact .inl rfl | exact .inr rfl) Tryd.results61 rfl rfl [] inferInstance ⟨rfl, rfl⟩)) | (all_goals refine nx_skip ?_))
        all_goals refine kp_code_normal ?_
        all_goals refine nx_seq ?_
        all_goals refine nx_seq ?_
        all_goals refine nx_region ?_
        all_goals (refine nx_op ?_; refine opw_yld (Yld.move rfl) rfl ?_)
        all_goals refine nx_nil ?_
        all_goals refine kp_code_normal ?_
        all_goals refine nx_block ?_
        all_goals refine nx_seq ?_
        all_goals refine nx_region ?_
        all_goals (refine nx_op ?_; refine opw_yld (Yld.eqS rfl rfl) rfl ?_)
        all_goals (refine nx_op ?_; refine opw_yld (Yld.assign rfl) rfl ?_)
        all_goals refine nx_nil ?_
        all_goals refine kp_code_normal ?_
        all_goals (refine nx_cond rfl (fun hc => ?_) (fun hc => ?_))
        all_goals (first | (exact Bool.noConfusion (hc.symm.trans (by first | rfl | assumption) : true = false)) | (exact Bool.noConfusion (hc.symm.trans (by first | rfl | assumption) : false = true)) | (all_goals refine nx_seq ?_; all_goals refine nx_region ?_; all_goals (refine nx_op ?_; refine opw_yld (Yld.move rfl) rfl ?_); all_goals (refine nx_op ?_; refine opw_yld (Yld.assign rfl) rfl ?_); all_goals (refine nx_op ?_; refine opw_yld (Yld.assign rfl) rfl ?_); all_goals refine nx_nil ?_; all_goals refine kp_code_normal ?_; all_goals refine nx_ret ?_; all_goals refine kp_blk_ret ?_; all_goals refine kp_code_ret ?_; all_goals (exact res2 (by first | exact .inl rfl | exact .inr rfl) Tryd.results61 rfl rfl [] inferInstance ⟨rfl, rfl⟩)) | (all_goals refine nx_seq ?_; all_goals refine nx_region ?_; all_goals (refine nx_op ?_; refine opw_yld (Yld.eqS rfl rfl) rfl ?_); all_goals (refine nx_op ?_; refine opw_yld (Yld.assign rfl) rfl ?_); all_goals refine nx_nil ?_; all_goals refine kp_code_normal ?_; all_goals (refine nx_cond rfl (fun hc => ?_) (fun hc => ?_)); all_goals (first | (exact Bool.noConfusion (hc.symm.trans (by first | rfl | assumption) : true = false)) | (exact Bool.noConfusion (hc.symm.trans (by first | rfl | assumption) : false = true)) | (all_goals refine nx_seq ?_; all_goals refine nx_region ?_; all_goals (refine nx_op ?_; refine opw_yld (Yld.move rfl) rfl ?_); all_goals (refine nx_op ?_; refine opw_yld (Yld.move rfl) rfl ?_); all_goals (refine nx_op ?_; fail "call 20: r8.2"); all_goals (refine nx_op ?_; refine opw_yld (Yld.assign rfl) rfl ?_); all_goals (refine nx_op ?_; refine opw_yld (Yld.assign rfl) rfl ?_); all_goals refine nx_nil ?_; all_goals refine kp_code_normal ?_; all_goals refine nx_ret ?_; all_goals refine kp_blk_ret ?_; all_goals refine kp_code_ret ?_; all_goals (exact res2 (by first | exact .inl rfl | exact .inr rfl) Tryd.results61 rfl rfl [] inferInstance ⟨rfl, rfl⟩)) | (all_goals refine nx_skip ?_))))
        all_goals refine kp_blk_normal ?_
        all_goals refine kp_code_normal ?_
        all_goals refine nx_seq ?_
        all_goals refine nx_region ?_
        all_goals (refine nx_op ?_; refine opw_yld (Yld.move rfl) rfl ?_)
        all_goals (refine nx_op ?_; refine opw_yld (Yld.move rfl) rfl ?_)
        all_goals (refine nx_op ?_; fail "call 104: r9.2")
        all_goals (refine nx_op ?_; refine opw_yld (Yld.assign rfl) rfl ?_)
        all_goals refine nx_nil ?_
        all_goals refine kp_code_normal ?_
        all_goals refine nx_seq ?_
        all_goals refine nx_seq ?_
        all_goals refine nx_region ?_
        all_goals (refine nx_op ?_; refine opw_yld (Yld.move rfl) rfl ?_)
        all_goals (refine nx_op ?_; refine opw_yld (Yld.cmp rfl rfl rfl) rfl ?_)
        all_goals refine nx_nil ?_
        all_goals refine kp_code_normal ?_
        all_goals (refine nx_cond rfl (fun hc => ?_) (fun hc => ?_))
        all_goals (first | (exact Bool.noConfusion (hc.symm.trans (by first | rfl | assumption) : true = false)) | (exact Bool.noConfusion (hc.symm.trans (by first | rfl | assumption) : false = true)) | (all_goals refine nx_seq ?_; all_goals refine nx_region ?_; all_goals (refine nx_op ?_; refine opw_yld (Yld.assign rfl) rfl ?_); all_goals (refine nx_op ?_; refine opw_yld (Yld.assign rfl) rfl ?_); all_goals refine nx_nil ?_; all_goals refine kp_code_normal ?_; all_goals refine nx_ret ?_; all_goals refine kp_code_ret ?_; all_goals (exact res2 (by first | exact .inl rfl | exact .inr rfl) Tryd.results61 rfl rfl [] inferInstance ⟨rfl, rfl⟩)) | (all_goals refine nx_skip ?_))
        all_goals refine kp_code_normal ?_
        all_goals refine nx_seq ?_
        all_goals refine nx_region ?_
        all_goals (refine nx_op ?_; refine opw_yld (Yld.move rfl) rfl ?_)
        all_goals (refine nx_op ?_; refine opw_yld (Yld.nilCheck rfl) rfl ?_)
        all_goals (refine nx_op ?_; refine opw_yld (Yld.fieldAddr rfl) rfl ?_)
        all_goals (refine nx_op ?_; refine opw_yld (Yld.load rfl) rfl ?_)
        all_goals (refine nx_op ?_; refine opw_yld (Yld.move rfl) rfl ?_)
        all_goals (refine nx_op ?_; refine opw_yld (Yld.indexAddr rfl rfl (by omega)) rfl ?_)
        all_goals (refine nx_op ?_; refine opw_yld (Yld.fieldAddr rfl) rfl ?_)
        all_goals (refine nx_op ?_; refine opw_yld (Yld.load rfl) rfl ?_)
        all_goals (refine nx_op ?_; refine opw_yld (Yld.assign rfl) rfl ?_)
        all_goals (refine nx_op ?_; refine opw_yld (Yld.assign rfl) rfl ?_)
        all_goals refine nx_nil ?_
        all_goals refine kp_code_normal ?_
        all_goals refine nx_ret ?_
        all_goals (exact res2 (by first | exact .inl rfl | exact .inr rfl) Tryd.results61 rfl rfl [] inferInstance ⟨rfl, rfl⟩)
      | false =>
      cases hdd : (bs nm == [46, 46]) with
      | true =>
        simp only [cond_true, cond_false]
        all_goals refine nx_seq ?_
        all_goals refine nx_region ?_
        all_goals (refine nx_op ?_; refine opw_yld (Yld.assign rfl) rfl ?_)
        all_goals (refine nx_op ?_; refine opw_yld (Yld.assign rfl) rfl ?_)
        all_goals refine nx_nil ?_
        all_goals refine kp_code_normal ?_
        all_goals refine nx_seq ?_
        all_goals refine nx_region ?_
        all_goals (refine nx_op ?_; refine opw_yld (Yld.move rfl) rfl ?_)
        all_goals (refine nx_op ?_; refine opw_yld (Yld.move rfl) rfl ?_)
        all_goals (refine nx_op ?_; (refine opw_call rfl (sp65 (by simpa using hT) _) inferInstance rfl ?_; rintro _ _ ⟨rfl, rfl⟩; simp only [List.nil_append, dirV, hf, hk, if_true]))
        all_goals (refine nx_op ?_; refine opw_yld (Yld.move rfl) rfl ?_)
        all_goals (refine nx_op ?_; refine opw_yld (Yld.extract rfl rfl) rfl ?_)
        all_goals (refine nx_op ?_; refine opw_yld (Yld.extract rfl rfl) rfl ?_)
        all_goals (refine nx_op ?_; refine opw_yld (Yld.assign rfl) rfl ?_)
        all_goals (refine nx_op ?_; refine opw_yld (Yld.assign rfl) rfl ?_)
        all_goals refine nx_nil ?_
        all_goals refine kp_code_normal ?_
        all_goals refine nx_seq ?_
        all_goals refine nx_seq ?_
        all_goals refine nx_region ?_
        all_goals (refine nx_op ?_; refine opw_yld (Yld.move rfl) rfl ?_)
        all_goals (refine nx_op ?_; refine opw_yld (Yld.cmp rfl rfl rfl) rfl ?_)
        all_goals refine nx_nil ?_
        all_goals refine kp_code_normal ?_
        all_goals (refine nx_cond rfl (fun hc => ?_) (fun hc => ?_))
        all_goals (first | (exact Bool.noConfusion (hc.symm.trans (by first | rfl | assumption) : true = false)) | (exact Bool.noConfusion (hc.symm.trans (by first | rfl | assumption) : false = true)) | (all_goals refine nx_seq ?_; all_goals refine nx_region ?_; all_goals (refine nx_op ?_; refine opw_yld (Yld.move rfl) rfl ?_); all_goals (refine nx_op ?_; refine opw_yld (Yld.assign rfl) rfl ?_); all_goals (refine nx_op ?_; refine opw_yld (Yld.assign rfl) rfl ?_); all_goals refine nx_nil ?_; all_goals refine kp_code_normal ?_; all_goals refine nx_ret ?_; all_goals refine kp_code_ret ?_; all_goals (exact res2 (by first | exact .inl rfl | exact .inr rfl) Tryd.results61 rfl rfl [] inferInstance ⟨rfl, rfl⟩)) | (all_goals refine nx_skip ?_))
        all_goals refine kp_code_normal ?_
        all_goals refine nx_seq ?_
        all_goals refine nx_seq ?_
        all_goals refine nx_region ?_
        all_goals (refine nx_op ?_; refine opw_yld (Yld.move rfl) rfl ?_)
        all_goals refine nx_nil ?_
        all_goals refine kp_code_normal ?_
        all_goals refine nx_block ?_
        all_goals refine nx_seq ?_
        all_goals refine nx_region ?_
        all_goals (refine nx_op ?_; refine opw_yld (Yld.eqS rfl rfl) rfl ?_)
        all_goals (refine nx_op ?_; refine opw_yld (Yld.assign rfl) rfl ?_)
        all_goals refine nx_nil ?_
        all_goals refine kp_code_normal ?_
        all_goals (refine nx_cond rfl (fun hc => ?_) (fun hc => ?_))
        all_goals (first | (exact Bool.noConfusion (hc.symm.trans (by first | rfl | assumption) : true = false)) | (exact Bool.noConfusion (hc.symm.trans (by first | rfl | assumption) : false = true)) | (all_goals refine nx_seq ?_; all_goals refine nx_region ?_; all_goals (refine nx_op ?_; refine opw_yld (Yld.move rfl) rfl ?_); all_goals (refine nx_op ?_; refine opw_yld (Yld.assign rfl) rfl ?_); all_goals (refine nx_op ?_; refine opw_yld (Yld.assign rfl) rfl ?_); all_goals refine nx_nil ?_; all_goals refine kp_code_normal ?_; all_goals refine nx_ret ?_; all_goals refine kp_blk_ret ?_; all_goals refine kp_code_ret ?_; all_goals (exact res2 (by first | exact .inl rfl | exact .inr rfl) Tryd.results61 rfl rfl [] inferInstance ⟨rfl, rfl⟩)) | (all_goals refine nx_seq ?_; all_goals refine nx_region ?_; all_goals (refine nx_op ?_; refine opw_yld (Yld.eqS rfl rfl) rfl ?_); all_goals (refine nx_op ?_; refine opw_yld (Yld.assign rfl) rfl ?_); all_goals refine nx_nil ?_; all_goals refine kp_code_normal ?_; all_goals (refine nx_cond rfl (fun hc => ?_) (fun hc => ?_)); all_goals (first | (exact Bool.noConfusion (hc.symm.trans (by first | rfl | assumption) : true = false)) | (exact Bool.noConfusion (hc.symm.trans (by first | rfl | assumption) : false = true)) | (all_goals refine nx_seq ?_; all_goals refine nx_region ?_; all_goals (refine nx_op ?_; refine opw_yld (Yld.move rfl) rfl ?_); all_goals (refine nx_op ?_; refine opw_yld (Yld.move rfl) rfl ?_); all_goals (refine nx_op ?_; (refine opw_call rfl (sp20 (by simpa using hT) _) inferInstance rfl ?_; rintro _ _ ⟨rfl, rfl⟩; simp only [List.nil_append])); all_goals (refine nx_op ?_; refine opw_yld (Yld.assign rfl) rfl ?_); all_goals (refine nx_op ?_; refine opw_yld (Yld.assign rfl) rfl ?_); all_goals refine nx_nil ?_; all_goals refine kp_code_normal ?_; all_goals refine nx_ret ?_; all_goals refine kp_blk_ret ?_; all_goals refine kp_code_ret ?_; all_goals (exact res2 (by first | exact .inl rfl | exact .inr rfl) Tryd.results61 rfl rfl [] inferInstance ⟨rfl, rfl⟩)) | (all_goals refine nx_skip ?_))))
        all_goals refine kp_blk_normal ?_
        all_goals refine kp_code_normal ?_
        all_goals refine nx_seq ?_
        all_goals refine nx_region ?_
        all_goals (refine nx_op ?_; refine opw_yld (Yld.move rfl) rfl ?_)
        all_goals (refine nx_op ?_; refine opw_yld (Yld.move rfl) rfl ?_)
        all_goals (refine nx_op ?_; fail "call 104: r9.2")
        all_goals (refine nx_op ?_; refine opw_yld (Yld.assign rfl) rfl ?_)
        all_goals refine nx_nil ?_
        all_goals refine kp_code_normal ?_
        all_goals refine nx_seq ?_
        all_goals refine nx_seq ?_
        all_goals refine nx_region ?_
        all_goals (refine nx_op ?_; refine opw_yld (Yld.move rfl) rfl ?_)
        all_goals (refine nx_op ?_; refine opw_yld (Yld.cmp rfl rfl rfl) rfl ?_)
        all_goals refine nx_nil ?_
        all_goals refine kp_code_normal ?_
        all_goals (refine nx_cond rfl (fun hc => ?_) (fun hc => ?_))
        all_goals (first | (exact Bool.noConfusion (hc.symm.trans (by first | rfl | assumption) : true = false)) | (exact Bool.noConfusion (hc.symm.trans (by first | rfl | assumption) : false = true)) | (all_goals refine nx_seq ?_; all_goals refine nx_region ?_; all_goals (refine nx_op ?_; refine opw_yld (Yld.assign rfl) rfl ?_); all_goals (refine nx_op ?_; refine opw_yld (Yld.assign rfl) rfl ?_); all_goals refine nx_nil ?_; all_goals refine kp_code_normal ?_; all_goals refine nx_ret ?_; all_goals refine kp_code_ret ?_; all_goals (exact res2 (by first | exact .inl rfl | exact .inr rfl) Tryd.results61 rfl rfl [] inferInstance ⟨rfl, rfl⟩)) | (all_goals refine nx_skip ?_))
        all_goals refine kp_code_normal ?_
        all_goals refine nx_seq ?_
        all_goals refine nx_region ?_
        all_goals (refine nx_op ?_; refine opw_yld (Yld.move rfl) rfl ?_)
        all_goals (refine nx_op ?_; refine opw_yld (Yld.nilCheck rfl) rfl ?_)
        all_goals (refine nx_op ?_; refine opw_yld (Yld.fieldAddr rfl) rfl ?_)
        all_goals (refine nx_op ?_; refine opw_yld (Yld.load rfl) rfl ?_)
        all_goals (refine nx_op ?_; refine opw_yld (Yld.move rfl) rfl ?_)
        all_goals (refine nx_op ?_; refine opw_yld (Yld.indexAddr rfl rfl (by omega)) rfl ?_)
        all_goals (refine nx_op ?_; refine opw_yld (Yld.fieldAddr rfl) rfl ?_)
        all_goals (refine nx_op ?_; refine opw_yld (Yld.load rfl) rfl ?_)
        all_goals (refine nx_op ?_; refine opw_yld (Yld.assign rfl) rfl ?_)
        all_goals (refine nx_op ?_; refine opw_yld (Yld.assign rfl) rfl ?_)
        all_goals refine nx_nil ?_
        all_goals refine kp_code_normal ?_
        all_goals refine nx_ret ?_
        all_goals (exact res2 (by first | exact .inl rfl | exact .inr rfl) Tryd.results61 rfl rfl [] inferInstance ⟨rfl, rfl⟩)
      | false =>
      simp only [cond_false]
      rcases idxE_cases x.f.ents (bs nm) with ⟨h1, h2⟩ | ⟨k, e, h1, h2, h3, h4⟩
      · all_goals refine nx_seq ?_
        all_goals refine nx_region ?_
        all_goals (refine nx_op ?_; refine opw_yld (Yld.assign rfl) rfl ?_)
        all_goals (refine nx_op ?_; refine opw_yld (Yld.assign rfl) rfl ?_)
        all_goals refine nx_nil ?_
        all_goals refine kp_code_normal ?_
        all_goals refine nx_seq ?_
        all_goals refine nx_region ?_
        all_goals (refine nx_op ?_; refine opw_yld (Yld.move rfl) rfl ?_)
        all_goals (refine nx_op ?_; refine opw_yld (Yld.move rfl) rfl ?_)
        all_goals (refine nx_op ?_; (refine opw_call rfl (sp65 (by simpa using hT) _) inferInstance rfl ?_; rintro _ _ ⟨rfl, rfl⟩; simp only [List.nil_append, dirV, hf, hk, if_true]))
        all_goals (refine nx_op ?_; refine opw_yld (Yld.move rfl) rfl ?_)
        all_goals (refine nx_op ?_; refine opw_yld (Yld.extract rfl rfl) rfl ?_)
        all_goals (refine nx_op ?_; refine opw_yld (Yld.extract rfl rfl) rfl ?_)
        all_goals (refine nx_op ?_; refine opw_yld (Yld.assign rfl) rfl ?_)
        all_goals (refine nx_op ?_; refine opw_yld (Yld.assign rfl) rfl ?_)
        all_goals refine nx_nil ?_
        all_goals refine kp_code_normal ?_
        all_goals refine nx_seq ?_
        all_goals refine nx_seq ?_
        all_goals refine nx_region ?_
        all_goals (refine nx_op ?_; refine opw_yld (Yld.move rfl) rfl ?_)
        all_goals (refine nx_op ?_; refine opw_yld (Yld.cmp rfl rfl rfl) rfl ?_)
        all_goals refine nx_nil ?_
        all_goals refine kp_code_normal ?_
        all_goals (refine nx_cond rfl (fun hc => ?_) (fun hc => ?_))
        all_goals (first | (exact Bool.noConfusion (hc.symm.trans (by first | rfl | assumption) : true = false)) | (exact Bool.noConfusion (hc.symm.trans (by first | rfl | assumption) : false = true)) | (all_goals refine nx_seq ?_; all_goals refine nx_region ?_; all_goals (refine nx_op ?_; refine opw_yld (Yld.move rfl) rfl ?_); all_goals (refine nx_op ?_; refine opw_yld (Yld.assign rfl) rfl ?_); all_goals (refine nx_op ?_; refine opw_yld (Yld.assign rfl) rfl ?_); all_goals refine nx_nil ?_; all_goals refine kp_code_normal ?_; all_goals refine nx_ret ?_; all_goals refine kp_code_ret ?_; all_goals (exact res2 (by first | exact .inl rfl | exact .inr rfl) Tryd.results61 rfl rfl [] inferInstance ⟨by simp [entR, h1, pairV], rfl⟩)) | (all_goals refine nx_skip ?_))
        all_goals refine kp_code_normal ?_
        all_goals refine nx_seq ?_
        all_goals refine nx_seq ?_
        all_goals refine nx_region ?_
        all_goals (refine nx_op ?_; refine opw_yld (Yld.move rfl) rfl ?_)
        all_goals refine nx_nil ?_
        all_goals refine kp_code_normal ?_
        all_goals refine nx_block ?_
        all_goals refine nx_seq ?_
        all_goals refine nx_region ?_
        all_goals (refine nx_op ?_; refine opw_yld (Yld.eqS rfl rfl) rfl ?_)
        all_goals (refine nx_op ?_; refine opw_yld (Yld.assign rfl) rfl ?_)
        all_goals refine nx_nil ?_
        all_goals refine kp_code_normal ?_
        all_goals (refine nx_cond rfl (fun hc => ?_) (fun hc => ?_))
        all_goals (first | (exact Bool.noConfusion (hc.symm.trans (by first | rfl | assumption) : true = false)) | (exact Bool.noConfusion (hc.symm.trans (by first | rfl | assumption) : false = true)) | (all_goals refine nx_seq ?_; all_goals refine nx_region ?_; all_goals (refine nx_op ?_; refine opw_yld (Yld.move rfl) rfl ?_); all_goals (refine nx_op ?_; refine opw_yld (Yld.assign rfl) rfl ?_); all_goals (refine nx_op ?_; refine opw_yld (Yld.assign rfl) rfl ?_); all_goals refine nx_nil ?_; all_goals refine kp_code_normal ?_; all_goals refine nx_ret ?_; all_goals refine kp_blk_ret ?_; all_goals refine kp_code_ret ?_; all_goals (exact res2 (by first | exact .inl rfl | exact .inr rfl) Tryd.results61 rfl rfl [] inferInstance ⟨by simp [entR, h1, pairV], rfl⟩)) | (all_goals refine nx_seq ?_; all_goals refine nx_region ?_; all_goals (refine nx_op ?_; refine opw_yld (Yld.eqS rfl rfl) rfl ?_); all_goals (refine nx_op ?_; refine opw_yld (Yld.assign rfl) rfl ?_); all_goals refine nx_nil ?_; all_goals refine kp_code_normal ?_; all_goals (refine nx_cond rfl (fun hc => ?_) (fun hc => ?_)); all_goals (first | (exact Bool.noConfusion (hc.symm.trans (by first | rfl | assumption) : true = false)) | (exact Bool.noConfusion (hc.symm.trans (by first | rfl | assumption) : false = true)) | (all_goals refine nx_seq ?_; all_goals refine nx_region ?_; all_goals (refine nx_op ?_; refine opw_yld (Yld.move rfl) rfl ?_); all_goals (refine nx_op ?_; refine opw_yld (Yld.move rfl) rfl ?_); all_goals (refine nx_op ?_; fail "call 20: r8.2"); all_goals (refine nx_op ?_; refine opw_yld (Yld.assign rfl) rfl ?_); all_goals (refine nx_op ?_; refine opw_yld (Yld.assign rfl) rfl ?_); all_goals refine nx_nil ?_; all_goals refine kp_code_normal ?_; all_goals refine nx_ret ?_; all_goals refine kp_blk_ret ?_; all_goals refine kp_code_ret ?_; all_goals (exact res2 (by first | exact .inl rfl | exact .inr rfl) Tryd.results61 rfl rfl [] inferInstance ⟨by simp [entR, h1, pairV], rfl⟩)) | (all_goals refine nx_skip ?_))))
        all_goals refine kp_blk_normal ?_
        all_goals refine kp_code_normal ?_
        all_goals refine nx_seq ?_
        all_goals refine nx_region ?_
        all_goals (refine nx_op ?_; refine opw_yld (Yld.move rfl) rfl ?_)
        all_goals (refine nx_op ?_; refine opw_yld (Yld.move rfl) rfl ?_)
        all_goals (refine nx_op ?_; (refine opw_call rfl (sp104 (by simpa using hN) _) inferInstance rfl ?_; rintro _ _ ⟨rfl, rfl⟩; simp only [List.nil_append, h2]))
        all_goals (refine nx_op ?_; refine opw_yld (Yld.assign rfl) rfl ?_)
        all_goals refine nx_nil ?_
        all_goals refine kp_code_normal ?_
        all_goals refine nx_seq ?_
        all_goals refine nx_seq ?_
        all_goals refine nx_region ?_
        all_goals (refine nx_op ?_; refine opw_yld (Yld.move rfl) rfl ?_)
        all_goals (refine nx_op ?_; refine opw_yld (Yld.cmp rfl rfl rfl) rfl ?_)
        all_goals refine nx_nil ?_
        all_goals refine kp_code_normal ?_
        all_goals (refine nx_cond rfl (fun hc => ?_) (fun hc => ?_))
        all_goals (first | (exact Bool.noConfusion (hc.symm.trans (by first | rfl | assumption) : true = false)) | (exact Bool.noConfusion (hc.symm.trans (by first | rfl | assumption) : false = true)) | (all_goals refine nx_seq ?_; all_goals refine nx_region ?_; all_goals (refine nx_op ?_; refine opw_yld (Yld.assign rfl) rfl ?_); all_goals (refine nx_op ?_; refine opw_yld (Yld.assign rfl) rfl ?_); all_goals refine nx_nil ?_; all_goals refine kp_code_normal ?_; all_goals refine nx_ret ?_; all_goals refine kp_code_ret ?_; all_goals (exact res2 (by first | exact .inl rfl | exact .inr rfl) Tryd.results61 rfl rfl [] inferInstance ⟨by simp [entR, h1, pairV], rfl⟩)) | (all_goals refine nx_skip ?_))
        all_goals refine kp_code_normal ?_
        all_goals refine nx_seq ?_
        all_goals refine nx_region ?_
        all_goals (refine nx_op ?_; refine opw_yld (Yld.move rfl) rfl ?_)
        all_goals (refine nx_op ?_; refine opw_yld (Yld.nilCheck rfl) rfl ?_)
        all_goals (refine nx_op ?_; refine opw_yld (Yld.fieldAddr rfl) rfl ?_)
        all_goals (refine nx_op ?_; refine opw_yld (Yld.load rfl) rfl ?_)
        all_goals (refine nx_op ?_; refine opw_yld (Yld.move rfl) rfl ?_)
        all_goals (refine nx_op ?_; refine opw_yld (Yld.indexAddr rfl rfl (by omega)) rfl ?_)
        all_goals (refine nx_op ?_; refine opw_yld (Yld.fieldAddr rfl) rfl ?_)
        all_goals (refine nx_op ?_; refine opw_yld (Yld.load rfl) rfl ?_)
        all_goals (refine nx_op ?_; refine opw_yld (Yld.assign rfl) rfl ?_)
        all_goals (refine nx_op ?_; refine opw_yld (Yld.assign rfl) rfl ?_)
        all_goals refine nx_nil ?_
        all_goals refine kp_code_normal ?_
        all_goals refine nx_ret ?_
        all_goals (exact res2 (by first | exact .inl rfl | exact .inr rfl) Tryd.results61 rfl rfl [] inferInstance ⟨by simp [entR, h1, pairV], rfl⟩)
      · obtain ⟨b, cap, tl, hev, hec, hcap⟩ := Own_some hN.ok.ents (by omega)
        have i2 : InC b (.cells (entsV x.f.ents ++ tl).toArray 52 (0, 0)) F := ⟨hN.sub _ (by simp [Nd.chunk, hec])⟩
        have i3 := (nthE (tl := tl) h3).2.1
        have hb : decide ((k : Int) < 0) = false := by simp
        all_goals refine nx_seq ?_
        all_goals refine nx_region ?_
        all_goals (refine nx_op ?_; refine opw_yld (Yld.assign rfl) rfl ?_)
        all_goals (refine nx_op ?_; refine opw_yld (Yld.assign rfl) rfl ?_)
        all_goals refine nx_nil ?_
        all_goals refine kp_code_normal ?_
        all_goals refine nx_seq ?_
        all_goals refine nx_region ?_
        all_goals (refine nx_op ?_; refine opw_yld (Yld.move rfl) rfl ?_)
        all_goals (refine nx_op ?_; refine opw_yld (Yld.move rfl) rfl ?_)
        all_goals (refine nx_op ?_; (refine opw_call rfl (sp65 (by simpa using hT) _) inferInstance rfl ?_; rintro _ _ ⟨rfl, rfl⟩; simp only [List.nil_append, dirV, hf, hk, if_true]))
        all_goals (refine nx_op ?_; refine opw_yld (Yld.move rfl) rfl ?_)
        all_goals (refine nx_op ?_; refine opw_yld (Yld.extract rfl rfl) rfl ?_)
        all_goals (refine nx_op ?_; refine opw_yld (Yld.extract rfl rfl) rfl ?_)
        all_goals (refine nx_op ?_; refine opw_yld (Yld.assign rfl) rfl ?_)
        all_goals (refine nx_op ?_; refine opw_yld (Yld.assign rfl) rfl ?_)
        all_goals refine nx_nil ?_
        all_goals refine kp_code_normal ?_
        all_goals refine nx_seq ?_
        all_goals refine nx_seq ?_
        all_goals refine nx_region ?_
        all_goals (refine nx_op ?_; refine opw_yld (Yld.move rfl) rfl ?_)
        all_goals (refine nx_op ?_; refine opw_yld (Yld.cmp rfl rfl rfl) rfl ?_)
        all_goals refine nx_nil ?_
        all_goals refine kp_code_normal ?_
        all_goals (refine nx_cond rfl (fun hc => ?_) (fun hc => ?_))
        all_goals (first | (exact Bool.noConfusion (hc.symm.trans (by first | rfl | assumption) : true = false)) | (exact Bool.noConfusion (hc.symm.trans (by first | rfl | assumption) : false = true)) | (all_goals refine nx_seq ?_; all_goals refine nx_region ?_; all_goals (refine nx_op ?_; refine opw_yld (Yld.move rfl) rfl ?_); all_goals (refine nx_op ?_; refine opw_yld (Yld.assign rfl) rfl ?_); all_goals (refine nx_op ?_; refine opw_yld (Yld.assign rfl) rfl ?_); all_goals refine nx_nil ?_; all_goals refine kp_code_normal ?_; all_goals refine nx_ret ?_; all_goals refine kp_code_ret ?_; all_goals (exact res2 (by first | exact .inl rfl | exact .inr rfl) Tryd.results61 rfl rfl [] inferInstance ⟨by simp [entR, h1, pairV, h3], rfl⟩)) | (all_goals refine nx_skip ?_))
        all_goals refine kp_code_normal ?_
        all_goals refine nx_seq ?_
        all_goals refine nx_seq ?_
        all_goals refine nx_region ?_
        all_goals (refine nx_op ?_; refine opw_yld (Yld.move rfl) rfl ?_)
        all_goals refine nx_nil ?_
        all_goals refine kp_code_normal ?_
        all_goals refine nx_block ?_
        all_goals refine nx_seq ?_
        all_goals refine nx_region ?_
        all_goals (refine nx_op ?_; refine opw_yld (Yld.eqS rfl rfl) rfl ?_)
        all_goals (refine nx_op ?_; refine opw_yld (Yld.assign rfl) rfl ?_)
        all_goals refine nx_nil ?_
        all_goals refine kp_code_normal ?_
        all_goals (refine nx_cond rfl (fun hc => ?_) (fun hc => ?_))
        all_goals (first | (exact Bool.noConfusion (hc.symm.trans (by first | rfl | assumption) : true = false)) | (exact Bool.noConfusion (hc.symm.trans (by first | rfl | assumption) : false = true)) | (all_goals refine nx_seq ?_; all_goals refine nx_region ?_; all_goals (refine nx_op ?_; refine opw_yld (Yld.move rfl) rfl ?_); all_goals (refine nx_op ?_; refine opw_yld (Yld.assign rfl) rfl ?_); all_goals (refine nx_op ?_; refine opw_yld (Yld.assign rfl) rfl ?_); all_goals refine nx_nil ?_; all_goals refine kp_code_normal ?_; all_goals refine nx_ret ?_; all_goals refine kp_blk_ret ?_; all_goals refine kp_code_ret ?_; all_goals (exact res2 (by first | exact .inl rfl | exact .inr rfl) Tryd.results61 rfl rfl [] inferInstance ⟨by simp [entR, h1, pairV, h3], rfl⟩)) | (all_goals refine nx_seq ?_; all_goals refine nx_region ?_; all_goals (refine nx_op ?_; refine opw_yld (Yld.eqS rfl rfl) rfl ?_); all_goals (refine nx_op ?_; refine opw_yld (Yld.assign rfl) rfl ?_); all_goals refine nx_nil ?_; all_goals refine kp_code_normal ?_; all_goals (refine nx_cond rfl (fun hc => ?_) (fun hc => ?_)); all_goals (first | (exact Bool.noConfusion (hc.symm.trans (by first | rfl | assumption) : true = false)) | (exact Bool.noConfusion (hc.symm.trans (by first | rfl | assumption) : false = true)) | (all_goals refine nx_seq ?_; all_goals refine nx_region ?_; all_goals (refine nx_op ?_; refine opw_yld (Yld.move rfl) rfl ?_); all_goals (refine nx_op ?_; refine opw_yld (Yld.move rfl) rfl ?_); all_goals (refine nx_op ?_; fail "call 20: r8.2"); all_goals (refine nx_op ?_; refine opw_yld (Yld.assign rfl) rfl ?_); all_goals (refine nx_op ?_; refine opw_yld (Yld.assign rfl) rfl ?_); all_goals refine nx_nil ?_; all_goals refine kp_code_normal ?_; all_goals refine nx_ret ?_; all_goals refine kp_blk_ret ?_; all_goals refine kp_code_ret ?_; all_goals (exact res2 (by first | exact .inl rfl | exact .inr rfl) Tryd.results61 rfl rfl [] inferInstance ⟨by simp [entR, h1, pairV, h3], rfl⟩)) | (all_goals refine nx_skip ?_))))
        all_goals refine kp_blk_normal ?_
        all_goals refine kp_code_normal ?_
        all_goals refine nx_seq ?_
        all_goals refine nx_region ?_
        all_goals (refine nx_op ?_; refine opw_yld (Yld.move rfl) rfl ?_)
        all_goals (refine nx_op ?_; refine opw_yld (Yld.move rfl) rfl ?_)
        all_goals (refine nx_op ?_; (refine opw_call rfl (sp104 (by simpa using hN) _) inferInstance rfl ?_; rintro _ _ ⟨rfl, rfl⟩; simp only [List.nil_append, h2]))
        all_goals (refine nx_op ?_; refine opw_yld (Yld.assign rfl) rfl ?_)
        all_goals refine nx_nil ?_
        all_goals refine kp_code_normal ?_
        all_goals refine nx_seq ?_
        all_goals refine nx_seq ?_
        all_goals refine nx_region ?_
        all_goals (refine nx_op ?_; refine opw_yld (Yld.move rfl) rfl ?_)
        all_goals (refine nx_op ?_; refine opw_yld (Yld.cmp rfl rfl rfl) rfl ?_)
        all_goals refine nx_nil ?_
        all_goals refine kp_code_normal ?_
        all_goals (refine nx_cond rfl (fun hc => ?_) (fun hc => ?_))
        all_goals (first | (exact Bool.noConfusion (hc.symm.trans (by first | rfl | assumption) : true = false)) | (exact Bool.noConfusion (hc.symm.trans (by first | rfl | assumption) : false = true)) | (all_goals refine nx_seq ?_; all_goals refine nx_region ?_; all_goals (refine nx_op ?_; refine opw_yld (Yld.assign rfl) rfl ?_); all_goals (refine nx_op ?_; refine opw_yld (Yld.assign rfl) rfl ?_); all_goals refine nx_nil ?_; all_goals refine kp_code_normal ?_; all_goals refine nx_ret ?_; all_goals refine kp_code_ret ?_; all_goals (exact res2 (by first | exact .inl rfl | exact .inr rfl) Tryd.results61 rfl rfl [] inferInstance ⟨by simp [entR, h1, pairV, h3], rfl⟩)) | (all_goals refine nx_skip ?_))
        all_goals refine kp_code_normal ?_
        all_goals refine nx_seq ?_
        all_goals refine nx_region ?_
        all_goals (refine nx_op ?_; refine opw_yld (Yld.move rfl) rfl ?_)
        all_goals (refine nx_op ?_; refine opw_yld (Yld.nilCheck rfl) rfl ?_)
        all_goals (refine nx_op ?_; refine opw_yld (Yld.fieldAddr rfl) rfl ?_)
        all_goals (refine nx_op ?_; refine opw_yld (Yld.load rfl) rfl ?_; rw [hev])
        all_goals (refine nx_op ?_; refine opw_yld (Yld.move rfl) rfl ?_)
        all_goals (refine nx_op ?_; refine opw_yld (Yld.indexAddr rfl rfl (by omega)) rfl ?_)
        all_goals (refine nx_op ?_; refine opw_yld (Yld.fieldAddr rfl) rfl ?_)
        all_goals (refine nx_op ?_; refine opw_yld (Yld.load rfl) rfl ?_)
        all_goals (refine nx_op ?_; refine opw_yld (Yld.assign rfl) rfl ?_)
        all_goals (refine nx_op ?_; refine opw_yld (Yld.assign rfl) rfl ?_)
        all_goals refine nx_nil ?_
        all_goals refine kp_code_normal ?_
        all_goals refine nx_ret ?_
        all_goals (exact res2 (by first | exact .inl rfl | exact .inr rfl) Tryd.results61 rfl rfl [] inferInstance ⟨by simp [entR, h1, pairV, h3], rfl⟩)
    · all_goals refine nx_seq ?_
      all_goals refine nx_region ?_
      all_goals (refine nx_op ?_; refine opw_yld (Yld.assign rfl) rfl ?_)
      all_goals (refine nx_op ?_; refine opw_yld (Yld.assign rfl) rfl ?_)
      all_goals refine nx_nil ?_
      all_goals refine kp_code_normal ?_
      all_goals refine nx_seq ?_
      all_goals refine nx_region ?_
      all_goals (refine nx_op ?_; refine opw_yld (Yld.move rfl) rfl ?_)
      all_goals (refine nx_op ?_; refine opw_yld (Yld.move rfl) rfl ?_)
      all_goals (refine nx_op ?_; (refine opw_call rfl (sp65 (by simpa using hT) _) inferInstance rfl ?_; rintro _ _ ⟨rfl, rfl⟩; simp only [List.nil_append, dirV, hf, hk, if_false]))
      all_goals (refine nx_op ?_; refine opw_yld (Yld.move rfl) rfl ?_)
      all_goals (refine nx_op ?_; refine opw_yld (Yld.extract rfl rfl) rfl ?_)
      all_goals (refine nx_op ?_; refine opw_yld (Yld.extract rfl rfl) rfl ?_)
      all_goals (refine nx_op ?_; refine opw_yld (Yld.assign rfl) rfl ?_)
      all_goals (refine nx_op ?_; refine opw_yld (Yld.assign rfl) rfl ?_)
      all_goals refine nx_nil ?_
      all_goals refine kp_code_normal ?_
      all_goals refine nx_seq ?_
      all_goals refine nx_seq ?_
      all_goals refine nx_region ?_
      all_goals (refine nx_op ?_; refine opw_yld (Yld.move rfl) rfl ?_)
      all_goals (refine nx_op ?_; refine opw_yld (Yld.cmp rfl rfl rfl) rfl ?_)
      all_goals refine nx_nil ?_
      all_goals refine kp_code_normal ?_
      all_goals (refine nx_cond rfl (fun hc => ?_) (fun hc => ?_))
      all_goals (first | (exact Bool.noConfusion (hc.symm.trans (by first | rfl | assumption) : true = false)) | (exact Bool.noConfusion (hc.symm.trans (by first | rfl | assumption) : false = true)) | (all_goals refine nx_seq ?_; all_goals refine nx_region ?_; all_goals (refine nx_op ?_; refine opw_yld (Yld.move rfl) rfl ?_); all_goals (refine nx_op ?_; refine opw_yld (Yld.assign rfl) rfl ?_); all_goals (refine nx_op ?_; refine opw_yld (Yld.assign rfl) rfl ?_); all_goals refine nx_nil ?_; all_goals refine kp_code_normal ?_; all_goals refine nx_ret ?_; all_goals refine kp_code_ret ?_; all_goals (exact res2 (by first | exact .inl rfl | exact .inr rfl) Tryd.results61 rfl rfl [] inferInstance ⟨by simp [findR, pairV, hf, hk, *], rfl⟩)) | (all_goals refine nx_skip ?_))
      all_goals refine kp_code_normal ?_
      all_goals refine nx_seq ?_
      all_goals refine nx_seq ?_
      all_goals refine nx_region ?_
      all_goals (refine nx_op ?_; refine opw_yld (Yld.move rfl) rfl ?_)
      all_goals refine nx_nil ?_
      all_goals refine kp_code_normal ?_
      all_goals refine nx_block ?_
      all_goals refine nx_seq ?_
      all_goals refine nx_region ?_
      all_goals (refine nx_op ?_; refine opw_yld (Yld.eqS rfl rfl) rfl ?_)
      all_goals (refine nx_op ?_; refine opw_yld (Yld.assign rfl) rfl ?_)
      all_goals refine nx_nil ?_
      all_goals refine kp_code_normal ?_
      all_goals (refine nx_cond rfl (fun hc => ?_) (fun hc => ?_))
      all_goals (first | (exact Bool.noConfusion (hc.symm.trans (by first | rfl | assumption) : true = false)) | (exact Bool.noConfusion (hc.symm.trans (by first | rfl | assumption) : false = true)) | (all_goals refine nx_seq ?_; all_goals refine nx_region ?_; all_goals (refine nx_op ?_; refine opw_yld (Yld.move rfl) rfl ?_); all_goals (refine nx_op ?_; refine opw_yld (Yld.assign rfl) rfl ?_); all_goals (refine nx_op ?_; refine opw_yld (Yld.assign rfl) rfl ?_); all_goals refine nx_nil ?_; all_goals refine kp_code_normal ?_; all_goals refine nx_ret ?_; all_goals refine kp_blk_ret ?_; all_goals refine kp_code_ret ?_; all_goals (exact res2 (by first | exact .inl rfl | exact .inr rfl) Tryd.results61 rfl rfl [] inferInstance ⟨by simp [findR, pairV, hf, hk, *], rfl⟩)) | (all_goals refine nx_seq ?_; all_goals refine nx_region ?_; all_goals (refine nx_op ?_; refine opw_yld (Yld.eqS rfl rfl) rfl ?_); all_goals (refine nx_op ?_; refine opw_yld (Yld.assign rfl) rfl ?_); all_goals refine nx_nil ?_; all_goals refine kp_code_normal ?_; all_goals (refine nx_cond rfl (fun hc => ?_) (fun hc => ?_)); all_goals (first | (exact Bool.noConfusion (hc.symm.trans (by first | rfl | assumption) : true = false)) | (exact Bool.noConfusion (hc.symm.trans (by first | rfl | assumption) : false = true)) | (all_goals refine nx_seq ?_; all_goals refine nx_region ?_; all_goals (refine nx_op ?_; refine opw_yld (Yld.move rfl) rfl ?_); all_goals (refine nx_op ?_; refine opw_yld (Yld.move rfl) rfl ?_); all_goals (refine nx_op ?_; fail "call 20: r8.2"); all_goals (refine nx_op ?_; refine opw_yld (Yld.assign rfl) rfl ?_); all_goals (refine nx_op ?_; refine opw_yld (Yld.assign rfl) rfl ?_); all_goals refine nx_nil ?_; all_goals refine kp_code_normal ?_; all_goals refine nx_ret ?_; all_goals refine kp_blk_ret ?_; all_goals refine kp_code_ret ?_; all_goals (exact res2 (by first | exact .inl rfl | exact .inr rfl) Tryd.results61 rfl rfl [] inferInstance ⟨by simp [findR, pairV, hf, hk, *], rfl⟩)) | (all_goals refine nx_skip ?_))))
      all_goals refine kp_blk_normal ?_
      all_goals refine kp_code_normal ?_
      all_goals refine nx_seq ?_
      all_goals refine nx_region ?_
      all_goals (refine nx_op ?_; refine opw_yld (Yld.move rfl) rfl ?_)
      all_goals (refine nx_op ?_; refine opw_yld (Yld.move rfl) rfl ?_)
      all_goals (refine nx_op ?_; fail "call 104: r9.2")
      all_goals (refine nx_op ?_; refine opw_yld (Yld.assign rfl) rfl ?_)
      all_goals refine nx_nil ?_
      all_goals refine kp_code_normal ?_
      all_goals refine nx_seq ?_
      all_goals refine nx_seq ?_
      all_goals refine nx_region ?_
      all_goals (refine nx_op ?_; refine opw_yld (Yld.move rfl) rfl ?_)
      all_goals (refine nx_op ?_; refine opw_yld (Yld.cmp rfl rfl rfl) rfl ?_)
      all_goals refine nx_nil ?_
      all_goals refine kp_code_normal ?_
      all_goals (refine nx_cond rfl (fun hc => ?_) (fun hc => ?_))
      all_goals (first | (exact Bool.noConfusion (hc.symm.trans (by first | rfl | assumption) : true = false)) | (exact Bool.noConfusion (hc.symm.trans (by first | rfl | assumption) : false = true)) | (all_goals refine nx_seq ?_; all_goals refine nx_region ?_; all_goals (refine nx_op ?_; refine opw_yld (Yld.assign rfl) rfl ?_); all_goals (refine nx_op ?_; refine opw_yld (Yld.assign rfl) rfl ?_); all_goals refine nx_nil ?_; all_goals refine kp_code_normal ?_; all_goals refine nx_ret ?_; all_goals refine kp_code_ret ?_; all_goals (exact res2 (by first | exact .inl rfl | exact .inr rfl) Tryd.results61 rfl rfl [] inferInstance ⟨by simp [findR, pairV, hf, hk, *], rfl⟩)) | (all_goals refine nx_skip ?_))
      all_goals refine kp_code_normal ?_
      all_goals refine nx_seq ?_
      all_goals refine nx_region ?_
      all_goals (refine nx_op ?_; refine opw_yld (Yld.move rfl) rfl ?_)
      all_goals (refine nx_op ?_; refine opw_yld (Yld.nilCheck rfl) rfl ?_)
      all_goals (refine nx_op ?_; refine opw_yld (Yld.fieldAddr rfl) rfl ?_)
      all_goals (refine nx_op ?_; refine opw_yld (Yld.load rfl) rfl ?_)
      all_goals (refine nx_op ?_; refine opw_yld (Yld.move rfl) rfl ?_)
      all_goals (refine nx_op ?_; refine opw_yld (Yld.indexAddr rfl rfl (by omega)) rfl ?_)
      all_goals (refine nx_op ?_; refine opw_yld (Yld.fieldAddr rfl) rfl ?_)
      all_goals (refine nx_op ?_; refine opw_yld (Yld.load rfl) rfl ?_)
      all_goals (refine nx_op ?_; refine opw_yld (Yld.assign rfl) rfl ?_)
      all_goals (refine nx_op ?_; refine opw_yld (Yld.assign rfl) rfl ?_)
      all_goals refine nx_nil ?_
      all_goals refine kp_code_normal ?_
      all_goals refine nx_ret ?_
      all_goals (exact res2 (by first | exact .inl rfl | exact .inr rfl) Tryd.results61 rfl rfl [] inferInstance ⟨by simp [findR, pairV, hf, hk, *], rfl⟩)
end
end Go.Proofs.YtdobndclhbkooaaDoor
