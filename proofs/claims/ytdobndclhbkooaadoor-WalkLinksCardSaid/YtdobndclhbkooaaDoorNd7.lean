/- A new node in a tree. Conditions: the tree is the call's own, the bytes lie in the memory that is kept. -/
import Derived.Test.YtdobndclhbkooaaDoorNd6
namespace Go.Proofs.YtdobndclhbkooaaDoor
open Go Go.SL
set_option maxRecDepth 100000
set_option linter.unusedVariables false

section
variable {F : Chunk} {T : Tr}
/-- The tree after a call: the same struct, its nodes as the plain model says. -/
def Nxt (T : Tr) (A : Fs) (B : List Chunk) : Prop := ∃ T' : Tr, T'.ok ∧ T'.t = T.t ∧ T'.N ≤ T.N + 1 ∧ abs T'.S = A ∧ B = [T'.chunk]

theorem Own_slice {e sz m : Nat} {v : Value} {xs : List Value} {c : Chunk} (h : Own e sz v m xs c) : ∃ a cap, v = .slice a m cap := by
  rcases h.2 with ⟨rfl, rfl, _⟩ | ⟨b, cap, tl, rfl, _⟩
  · exact ⟨_, _, rfl⟩
  · exact ⟨_, _, rfl⟩
theorem entsV_snoc (l : List Ent) (nm : ByteArray) (n k : Int) : entsV (l ++ [⟨nm, n, k⟩]) = entsV l ++ [.string nm, .int .i64 n, .int .i64 k] := by simp [entsV, entV]
theorem ptrs_upd {pre post : List Nd} {x x' y : Nd} (hn : x'.n = x.n) (hb : x'.b = x.b) : ptrs (pre ++ x' :: post ++ [y]) = ptrs (pre ++ x :: post) ++ [(y.n, .pointer (some ⟨y.b, 0, none⟩))] := by simp [ptrs, hn, hb]
theorem mk_fin {g : Gh} {fr' : List (Nat × Value)} (hT : T.ok) (hN : T.N < 500000000) (hc : ¬ 1024 ≤ T.S.length) {dir : Int} {nm : ByteArray} {kind mode : Int} {data : List UInt8} {pre post : List Nd} {x : Nd} (hS : T.S = pre ++ x :: post) (hxn : x.n = dir) (hpre : ∀ y ∈ pre, (y.n == dir) = false) (hdl : data.length ≤ 1048576)
    {b61 b83 : Nat} {o83 : Obj} {es' : Array MapEntry} {ck' : Nat} {dc c2 : Chunk} {a' a2 : Option Addr} {cap' cap2 : Nat} {p : Int} {nn : Int}
    (hm' : MapIs .i64 es' (ptrs T.S ++ [(nn, .pointer (some ⟨b61, 0, none⟩))]))
    (hB : Own 5 1 (.slice a' data.length cap') data.length (bytesV data) dc) (ho : Own 52 3 (.slice a2 (x.f.ents.length + 1) cap2) (x.f.ents.length + 1) (entsV x.f.ents ++ [.string nm, .int .i64 nn, .int .i64 kind]) c2)
    (hp : p = (newF kind mode data dir).parent) (h12 : SL.look fr' 12 = some (.int .i64 nn)) (h13 : SL.look fr' 13 = some (.int .i64 0)) :
    Nx g 88 fr' [[(b83, o83)], [(b61, .cells [.int .i64 kind, .int .i64 mode, .slice a' data.length cap', .slice none 0 0, .int .i64 p, .int .i64 1, .int .i64 0].toArray 88 (0, 0))], dc, [(T.t, .cells [.map (some T.m)].toArray 91 (0, 0))], [(T.m, .map es' ck')], pre.flatMap Nd.chunk, [(x.b, .cells [.int .i64 x.f.kind, .int .i64 x.f.mode, x.dv, .slice a2 (x.f.ents.length + 1) cap2, .int .i64 x.f.parent, .int .i64 x.f.links, .int .i64 x.f.held].toArray 88 (0, 0))], x.dc, c2, post.flatMap Nd.chunk, F]
      (kpost Tryd.prog [] (fnPost Tryd.prog Tryd.f43 g F fun v B => v = .tuple #[.int .i64 nn, .int .i64 0] ∧ Nxt T (updA (abs T.S) dir (addE x.f nm nn kind) ++ [(nn, newF kind mode data dir)]) B) Exit.ret) := by
  have hxo := hT.nds x (by rw [hS]; simp)
  have hxN := hT.big x (by rw [hS]; simp)
  let x' : Nd := ⟨x.n, addE x.f nm nn kind, x.b, x.dv, .slice a2 (x.f.ents.length + 1) cap2, x.dc, c2⟩
  let y : Nd := ⟨nn, newF kind mode data dir, b61, .slice a' data.length cap', .slice none 0 0, dc, []⟩
  let T' : Tr := ⟨T.t, T.m, es', ck', pre ++ x' :: post ++ [y], T.N + 1⟩
  refine Nx.take [[(T.t, .cells [.map (some T.m)].toArray 91 (0, 0))], [(T.m, .map es' ck')], pre.flatMap Nd.chunk, [(x.b, .cells [.int .i64 x.f.kind, .int .i64 x.f.mode, x.dv, .slice a2 (x.f.ents.length + 1) cap2, .int .i64 x.f.parent, .int .i64 x.f.links, .int .i64 x.f.held].toArray 88 (0, 0))], x.dc, c2, post.flatMap Nd.chunk, [(b61, .cells [.int .i64 kind, .int .i64 mode, .slice a' data.length cap', .slice none 0 0, .int .i64 p, .int .i64 1, .int .i64 0].toArray 88 (0, 0))], dc, F] inferInstance ?_
  refine Nx.flat [T'.chunk, F] (by subst hp; simp [T', x', y, Tr.chunk, Tr.head, Nd.chunk, addE, newF]) ?_
  refine res2 (by first | exact .inl rfl | exact .inr rfl) Tryd.results43 h12 h13 [T'.chunk] inferInstance ⟨rfl, T', ?_, rfl, Nat.le_refl _, ?_, rfl⟩
  · have hxo' : x'.ok := ⟨hxo.data, by simpa [x', addE, entsV_snoc] using ho, by have := hxo.small; simp [x', addE]; omega⟩
    have hyo : y.ok := ⟨hB, Own.nil _ _, by simp [y, newF]; omega⟩
    refine ⟨?_, ?_, ?_, ?_⟩
    · rw [show ptrs T'.S = ptrs T.S ++ [(nn, .pointer (some ⟨b61, 0, none⟩))] from by rw [hS]; exact ptrs_upd rfl rfl]
      exact hm'
    · intro z hz
      have hz' : z ∈ pre ∨ z = x' ∨ z ∈ post ∨ z = y := by simpa [T', or_assoc] using hz
      rcases hz' with h | rfl | h | rfl
      · exact hT.nds z (by rw [hS]; simp [h])
      · exact hxo'
      · exact hT.nds z (by rw [hS]; simp [h])
      · exact hyo
    · have : T'.S.length = T.S.length + 1 := by rw [hS]; simp [T']; omega
      omega
    · intro z hz
      show _ ≤ T.N + 1
      have hz' : z ∈ pre ∨ z = x' ∨ z ∈ post ∨ z = y := by simpa [T', or_assoc] using hz
      rcases hz' with h | rfl | h | rfl
      · have := hT.big z (by rw [hS]; simp [h]); omega
      · simp [x', addE]; omega
      · have := hT.big z (by rw [hS]; simp [h]); omega
      · simp [y, newF]
  · have h1 := abs_upd (post := post) (x := x) (x' := x') hxn (by exact hxn) hpre
    rw [hS, ← h1]
    simp [T', abs, y]

set_option maxHeartbeats 1000000 in
/-- Make, where it makes one. -/
theorem sp43o (hT : T.ok) (hN : T.N < 500000000) (dir : Int) (nm : ByteArray) (kind mode : Int) {v : Value} {data : List UInt8} (hv : Ro F v data.length (bytesV data)) (he : (makeA (abs T.S) dir nm kind mode data).2.1 = 0) :
    Sp Tryd.prog 43 [.pointer (some ⟨T.t, 0, none⟩), .int .i64 dir, .string nm, .int .i64 kind, .int .i64 mode, v] F [T.chunk]
      (fun v B => v = .tuple #[.int .i64 (makeA (abs T.S) dir nm kind mode data).1, .int .i64 0] ∧ Nxt T (makeA (abs T.S) dir nm kind mode data).2.2 B) := by
  have hm := hT.map
  obtain ⟨a, cap, e⟩ := Ro_slice hv
  have h95 : ∀ F', (∀ y ∈ F, y ∈ F') → Sp Tryd.prog 95 [.int .i64 kind, .int .i64 mode, v] F' [] (fun v B => v = .bool (goodB kind mode data) ∧ B = []) := fun F' h => sp95 (hv.mono h) kind mode
  have hp : placeR T.S dir (bs nm) = 0 := by
    rw [placeR_abs]
    generalize hq : placeA (abs T.S) dir (bs nm) = q at *
    simp only [makeA, hq] at he
    by_cases h1 : (q = 2 ∧ (fndA (abs T.S) dir).isNone = true) ∨ q = 20
    · rw [if_pos h1] at he; simp at he; omega
    · rw [if_neg h1] at he
      cases hg : goodB kind mode data with
      | false => simp [hg] at he
      | true =>
        by_cases h2 : q = 0
        · exact h2
        · simp [hg, h2] at he
  have hp2 : placeA (abs T.S) dir (bs nm) = 0 := by rw [← placeR_abs, hp]
  cases hf : fnd T.S dir with
  | none => exact absurd hp (by simp [placeR, hf])
  | some x =>
  have hf2 : fndA (abs T.S) dir = some x.f := by rw [fndA_abs, hf]; rfl
  cases hg : goodB kind mode data with
  | false => simp [makeA, hp2, hf2, hg] at he
  | true =>
  have hal : (abs T.S).length = T.S.length := by simp [abs]
  by_cases hcT : 1024 ≤ T.S.length
  · simp [makeA, hp2, hf2, hg, hal, hcT] at he
  have hr : makeA (abs T.S) dir nm kind mode data = ((freeA (abs T.S) : Int), 0, updA (abs T.S) dir (addE x.f nm (freeA (abs T.S) : Nat) kind) ++ [((freeA (abs T.S) : Int), newF kind mode data dir)]) := by
    simp [makeA, hp2, hf2, hg, hal, hcT]
  rw [hr]
  have hdl : data.length ≤ 1048576 := by
    simp only [goodB] at hg
    split at hg
    · exact absurd hg (by simp)
    · omega
  obtain ⟨pre, post, hS, hxn, hpre⟩ := fnd_split hf
  have hxo := hT.nds x (by rw [hS]; simp)
  have hxN := hT.big x (by rw [hS]; simp)
  have hch := Tr.chunk_split hS
  have hfr := freeN_spec T.S
  rw [freeN_abs] at hfr
  have hfl : (freeA (abs T.S) : Int) ≤ 1025 := by omega
  have hcl : decide (((ptrs T.S).length : Int) ≥ 1024) = false := by simp [ptrs]; omega
  subst e
  have hg2 : (!goodB kind mode data) = false := by simp [hg]
  rw [hg] at h95
  have hg3 : (!true) = false := rfl
  refine sp_enter Tryd.func43 rfl Tryd.ntmps43 rfl (fun g => ?_)
  simp only [argFr, List.nil_append, List.cons_append, Nat.reduceAdd]
  refine Nx.flat [[(T.t, .cells [.map (some T.m)].toArray 91 (0, 0))], [(T.m, .map T.es T.ck)], pre.flatMap Nd.chunk, [(x.b, .cells [.int .i64 x.f.kind, .int .i64 x.f.mode, x.dv, x.ev, .int .i64 x.f.parent, .int .i64 x.f.links, .int .i64 x.f.held].toArray 88 (0, 0))], x.dc, x.ec, post.flatMap Nd.chunk, F] (by simp [hch]) ?_
  have hsub : ∀ y ∈ T.chunk, y ∈ ([[(T.t, .cells [.map (some T.m)].toArray 91 (0, 0))], [(T.m, .map T.es T.ck)], pre.flatMap Nd.chunk, [(x.b, .cells [.int .i64 x.f.kind, .int .i64 x.f.mode, x.dv, x.ev, .int .i64 x.f.parent, .int .i64 x.f.links, .int .i64 x.f.held].toArray 88 (0, 0))], x.dc, x.ec, post.flatMap Nd.chunk, F] : List Chunk).flatten := fun y hy => by
    rw [hch] at hy; simpa [or_assoc] using Or.inl hy
  all_goals (refine nx_seq ?_; refine nx_region ?_; refine nx_op ?_; refine opw_yld (Yld.assign rfl) rfl ?_; refine nx_op ?_; refine opw_yld (Yld.assign rfl) rfl ?_; refine nx_nil ?_; refine kp_code_normal ?_; refine nx_seq ?_; refine nx_region ?_; refine nx_op ?_; refine opw_yld (Yld.move rfl) rfl ?_; refine nx_op ?_; refine opw_yld (Yld.move rfl) rfl ?_; refine nx_op ?_; refine opw_yld (Yld.move rfl) rfl ?_)
  all_goals (refine nx_op ?_; (refine opw_call rfl (sp94 (InT.of hT hsub) dir nm) inferInstance rfl ?_; rintro _ _ ⟨rfl, rfl⟩; simp only [List.nil_append, placeV, hp, if_true, hf, ptrO]))
  all_goals (refine nx_op ?_; refine opw_yld (Yld.move rfl) rfl ?_; refine nx_op ?_; refine opw_yld (Yld.extract rfl rfl) rfl ?_; refine nx_op ?_; refine opw_yld (Yld.extract rfl rfl) rfl ?_; refine nx_op ?_; refine opw_yld (Yld.assign rfl) rfl ?_; refine nx_op ?_; refine opw_yld (Yld.assign rfl) rfl ?_; refine nx_nil ?_; refine kp_code_normal ?_; refine nx_seq ?_; refine nx_block ?_; refine nx_seq ?_; refine nx_seq ?_; refine nx_region ?_; refine nx_op ?_; refine opw_yld (Yld.move rfl) rfl ?_; refine nx_op ?_; refine opw_yld (Yld.cmp rfl rfl rfl) rfl ?_; refine nx_op ?_; refine opw_yld (Yld.move rfl) rfl ?_)
  all_goals (first | refine nx_guard_n rfl (by first | rfl | assumption) rfl ?_ | refine nx_guard_u rfl rfl ?_ | ((first | refine nx_guard_y rfl (by first | rfl | assumption) ?_ | refine nx_guard rfl rfl (fun hc => ?_) (fun hc => ?_)); all_goals (first | (refine opw_yld (Yld.move rfl) rfl ?_) | skip)))
  all_goals (first | refine nx_guard_n rfl (by first | rfl | assumption) rfl ?_ | refine nx_guard_u rfl rfl ?_ | ((first | refine nx_guard_y rfl (by first | rfl | assumption) ?_ | refine nx_guard rfl rfl (fun hc => ?_) (fun hc => ?_)); all_goals (first | (refine opw_yld (Yld.move rfl) rfl ?_) | skip)))
  all_goals (first | refine nx_guard_n rfl (by first | rfl | assumption) rfl ?_ | refine nx_guard_u rfl rfl ?_ | ((first | refine nx_guard_y rfl (by first | rfl | assumption) ?_ | refine nx_guard rfl rfl (fun hc => ?_) (fun hc => ?_)); all_goals (first | ((fail)) | skip)))
  all_goals (first | refine nx_guard_n rfl (by first | rfl | assumption) rfl ?_ | refine nx_guard_u rfl rfl ?_ | ((first | refine nx_guard_y rfl (by first | rfl | assumption) ?_ | refine nx_guard rfl rfl (fun hc => ?_) (fun hc => ?_)); all_goals (first | (refine opw_yld (Yld.eqNil rfl rfl) rfl ?_) | skip)))
  all_goals (refine nx_op ?_; (first | refine opw_yld (Yld.pick_t rfl (by first | rfl | assumption) rfl) rfl ?_ | refine opw_yld (Yld.pick_f rfl (by first | rfl | assumption) rfl) rfl ?_))
  all_goals (refine nx_op ?_; refine opw_yld (Yld.assign rfl) rfl ?_; refine nx_nil ?_; refine kp_code_normal ?_)
  all_goals (refine nx_cond rfl (fun hc => ?_) (fun hc => ?_))
  all_goals (first | (exact Bool.noConfusion (hc.symm.trans (by first | rfl | assumption) : true = false)) | (exact Bool.noConfusion (hc.symm.trans (by first | rfl | assumption) : false = true)) | (all_goals refine nx_skip ?_) | (all_goals (refine nx_region ?_; refine nx_op ?_; refine opw_yld (Yld.move rfl) rfl ?_; refine nx_op ?_; refine opw_yld (Yld.cmp rfl rfl rfl) rfl ?_; refine nx_op ?_; refine opw_yld (Yld.assign rfl) rfl ?_; refine nx_nil ?_)))
  all_goals refine kp_code_normal ?_
  all_goals (refine nx_cond rfl (fun hc => ?_) (fun hc => ?_))
  all_goals (first | (exact Bool.noConfusion (hc.symm.trans (by first | rfl | assumption) : true = false)) | (exact Bool.noConfusion (hc.symm.trans (by first | rfl | assumption) : false = true)) | (all_goals (refine nx_seq ?_; refine nx_region ?_; refine nx_op ?_; refine opw_yld (Yld.move rfl) rfl ?_; refine nx_op ?_; refine opw_yld (Yld.assign rfl) rfl ?_; refine nx_op ?_; refine opw_yld (Yld.assign rfl) rfl ?_; refine nx_nil ?_; refine kp_code_normal ?_; refine nx_ret ?_; refine kp_blk_ret ?_; refine kp_code_ret ?_); all_goals (exact mk_fin hT hN hcT hS hxn hpre hdl hm' hB ho2 (by simp_all [newF]) rfl rfl)) | (all_goals (refine nx_seq ?_; refine nx_region ?_; refine nx_op ?_; refine opw_yld (Yld.move rfl) rfl ?_; refine nx_op ?_; refine opw_yld (Yld.move rfl) rfl ?_; refine nx_op ?_; refine opw_yld (Yld.move rfl) rfl ?_); all_goals (refine nx_op ?_; (refine opw_call rfl (h95 _ (by simp +contextual)) inferInstance rfl ?_; rintro _ _ ⟨rfl, rfl⟩; simp only [List.nil_append])); all_goals (refine nx_op ?_; refine opw_yld (Yld.not rfl) rfl ?_; refine nx_op ?_; refine opw_yld (Yld.assign rfl) rfl ?_; refine nx_nil ?_; refine kp_code_normal ?_); all_goals (refine nx_cond rfl (fun hc => ?_) (fun hc => ?_)); all_goals (first | (exact Bool.noConfusion (hc.symm.trans (by first | rfl | assumption) : true = false)) | (exact Bool.noConfusion (hc.symm.trans (by first | rfl | assumption) : false = true)) | (all_goals (refine nx_seq ?_; refine nx_region ?_; refine nx_op ?_; refine opw_yld (Yld.assign rfl) rfl ?_; refine nx_op ?_; refine opw_yld (Yld.assign rfl) rfl ?_; refine nx_nil ?_; refine kp_code_normal ?_; refine nx_ret ?_; refine kp_blk_ret ?_; refine kp_code_ret ?_); all_goals (exact mk_fin hT hN hcT hS hxn hpre hdl hm' hB ho2 (by simp_all [newF]) rfl rfl)) | (all_goals (refine nx_seq ?_; refine nx_region ?_; refine nx_op ?_; refine opw_yld (Yld.move rfl) rfl ?_; refine nx_op ?_; refine opw_yld (Yld.cmp rfl rfl rfl) rfl ?_; refine nx_op ?_; refine opw_yld (Yld.assign rfl) rfl ?_; refine nx_nil ?_; refine kp_code_normal ?_); all_goals (refine nx_cond rfl (fun hc => ?_) (fun hc => ?_)); all_goals (first | (exact Bool.noConfusion (hc.symm.trans (by first | rfl | assumption) : true = false)) | (exact Bool.noConfusion (hc.symm.trans (by first | rfl | assumption) : false = true)) | (all_goals (refine nx_seq ?_; refine nx_region ?_; refine nx_op ?_; refine opw_yld (Yld.move rfl) rfl ?_; refine nx_op ?_; refine opw_yld (Yld.assign rfl) rfl ?_; refine nx_op ?_; refine opw_yld (Yld.assign rfl) rfl ?_; refine nx_nil ?_; refine kp_code_normal ?_; refine nx_ret ?_; refine kp_blk_ret ?_; refine kp_code_ret ?_); all_goals (exact mk_fin hT hN hcT hS hxn hpre hdl hm' hB ho2 (by simp_all [newF]) rfl rfl)) | (all_goals (refine nx_seq ?_; refine nx_region ?_; refine nx_op ?_; refine opw_yld (Yld.move rfl) rfl ?_; refine nx_op ?_; refine opw_yld (Yld.nilCheck rfl) rfl ?_; refine nx_op ?_; refine opw_yld (Yld.fieldAddr rfl) rfl ?_; refine nx_op ?_; refine opw_yld (Yld.load rfl) rfl ?_; refine nx_op ?_; refine opw_yld (Yld.lenMap rfl hm) rfl ?_; refine nx_op ?_; refine opw_yld (Yld.cmp rfl rfl rfl) rfl ?_; refine nx_op ?_; refine opw_yld (Yld.assign rfl) rfl ?_; refine nx_nil ?_; refine kp_code_normal ?_); all_goals (refine nx_cond rfl (fun hc => ?_) (fun hc => ?_)); all_goals (first | (exact Bool.noConfusion (hc.symm.trans (by first | rfl | assumption) : true = false)) | (exact Bool.noConfusion (hc.symm.trans (by first | rfl | assumption) : false = true)) | (all_goals (refine nx_seq ?_; refine nx_region ?_; refine nx_op ?_; refine opw_yld (Yld.assign rfl) rfl ?_; refine nx_op ?_; refine opw_yld (Yld.assign rfl) rfl ?_; refine nx_nil ?_; refine kp_code_normal ?_; refine nx_ret ?_; refine kp_blk_ret ?_; refine kp_code_ret ?_); all_goals (exact mk_fin hT hN hcT hS hxn hpre hdl hm' hB ho2 (by simp_all [newF]) rfl rfl)) | (all_goals refine nx_skip ?_))))))))
  all_goals (refine kp_blk_normal ?_; refine kp_code_normal ?_; refine nx_seq ?_; refine nx_region ?_; refine nx_op ?_; refine opw_yld (Yld.move rfl) rfl ?_)
  all_goals (refine nx_op ?_; (refine opw_call rfl (sp96 (InT.of hT hsub) (by omega)) inferInstance rfl ?_; rintro _ _ ⟨rfl, rfl⟩; simp only [List.nil_append, freeN_abs]))
  all_goals (refine nx_op ?_; refine opw_yld (Yld.assign rfl) rfl ?_; refine nx_nil ?_; refine kp_code_normal ?_; refine nx_seq ?_; refine nx_region ?_; refine nx_op ?_; refine opw_yld (Yld.move rfl) rfl ?_; refine nx_op ?_; refine opw_yld (Yld.move rfl) rfl ?_; refine nx_op ?_; refine opw_yld (Yld.move rfl) rfl ?_)
  all_goals (refine nx_op ?_; (refine opw_call rfl (sp97 (hv.mono (by simp +contextual)) (by omega)) inferInstance rfl ?_; intro v' B hB; refine Nx.flat [B.flatten, [(T.t, .cells [.map (some T.m)].toArray 91 (0, 0))], [(T.m, .map T.es T.ck)], pre.flatMap Nd.chunk, [(x.b, .cells [.int .i64 x.f.kind, .int .i64 x.f.mode, x.dv, x.ev, .int .i64 x.f.parent, .int .i64 x.f.links, .int .i64 x.f.held].toArray 88 (0, 0))], x.dc, x.ec, post.flatMap Nd.chunk, F] (by simp) ?_; generalize B.flatten = dc at *; obtain ⟨a', cap', rfl⟩ := Own_slice hB))
  all_goals (refine nx_op ?_; refine opw_yld (Yld.build (cs := [.int .i64 kind, .int .i64 mode, .slice a' data.length cap', .slice none 0 0, .int .i64 0, .int .i64 1, .int .i64 0]) rfl rfl) rfl ?_)
  all_goals (refine nx_op ?_; refine opw_alc (Alc.boxAgg rfl) rfl (fun b61 => ?_))
  all_goals (refine nx_op ?_; refine opw_yld (Yld.assign rfl) rfl ?_; refine nx_nil ?_; refine kp_code_normal ?_; refine nx_seq ?_; refine nx_seq ?_; refine nx_region ?_; refine nx_op ?_; refine opw_yld (Yld.move rfl) rfl ?_; refine nx_op ?_; refine opw_yld (Yld.cmp rfl rfl rfl) rfl ?_; refine nx_nil ?_; refine kp_code_normal ?_)
  all_goals (refine nx_cond rfl (fun hc => ?_) (fun hc => ?_))
  all_goals (first | (exact Bool.noConfusion (hc.symm.trans (by first | rfl | assumption) : true = false)) | (exact Bool.noConfusion (hc.symm.trans (by first | rfl | assumption) : false = true)) | (all_goals (refine nx_region ?_; refine nx_op ?_; refine opw_yld (Yld.move rfl) rfl ?_; refine nx_op ?_; refine opw_yld (Yld.move rfl) rfl ?_; refine nx_op ?_; refine opw_yld (Yld.nilCheck rfl) rfl ?_; refine nx_op ?_; refine opw_yld (Yld.fieldAddr rfl) rfl ?_); all_goals (refine nx_op ?_; refine opw_store rfl rfl rfl ?_); all_goals refine nx_nil ?_) | (all_goals refine nx_skip ?_))
  all_goals (refine kp_code_normal ?_; refine nx_seq ?_; refine nx_region ?_; refine nx_op ?_; refine opw_yld (Yld.move rfl) rfl ?_; refine nx_op ?_; refine opw_yld (Yld.nilCheck rfl) rfl ?_; refine nx_op ?_; refine opw_yld (Yld.fieldAddr rfl) rfl ?_; refine nx_op ?_; refine opw_yld (Yld.load rfl) rfl ?_; refine nx_op ?_; refine opw_yld (Yld.move rfl) rfl ?_; refine nx_op ?_; refine opw_yld (Yld.move rfl) rfl ?_)
  all_goals (refine nx_op ?_; refine opw_mapUpdate rfl rfl rfl hm ?_; intro es' ck' hm'; rw [putI_new (by rw [getI_ptrs, hfr.1]; rfl)] at hm')
  all_goals (refine nx_nil ?_; refine kp_code_normal ?_; refine nx_seq ?_; refine nx_region ?_; refine nx_op ?_; refine opw_yld (Yld.move rfl) rfl ?_; refine nx_op ?_; refine opw_yld (Yld.move rfl) rfl ?_; refine nx_op ?_; refine opw_yld (Yld.nilCheck rfl) rfl ?_; refine nx_op ?_; refine opw_yld (Yld.fieldAddr rfl) rfl ?_; refine nx_op ?_; refine opw_yld (Yld.load rfl) rfl ?_; refine nx_op ?_; refine opw_yld (Yld.move rfl) rfl ?_; refine nx_op ?_; refine opw_yld (Yld.move rfl) rfl ?_; refine nx_op ?_; refine opw_yld (Yld.move rfl) rfl ?_; refine nx_op ?_; refine opw_yld (Yld.build (cs := [.string nm, .int .i64 (freeA (abs T.S) : Nat), .int .i64 kind]) rfl rfl) rfl ?_)
  all_goals (refine nx_op ?_; refine opw_alc (Alc.buildSlice rfl (by rfl) (by rfl) (by rfl) (by rfl)) rfl (fun b83 => ?_))
  all_goals (refine nx_op ?_; refine opw_append (e := 52) (sz := 3) (by' := 32) (z := [.string ⟨#[]⟩, .int .i64 0, .int .i64 0]) (m := x.f.ents.length) (k := 1) (ys := [.string nm, .int .i64 (freeA (abs T.S) : Nat), .int .i64 kind]) (c := x.ec) rfl rfl rfl hxo.ents inferInstance rfl rfl (by simp [Value.oneCell']) (by omega) (by omega) rfl ?_; intro v2 c2 ho2 hn2; obtain ⟨a2, cap2, rfl⟩ := Own_slice ho2)
  all_goals (refine nx_op ?_; refine opw_yld (Yld.nilCheck rfl) rfl ?_; refine nx_op ?_; refine opw_yld (Yld.fieldAddr rfl) rfl ?_)
  all_goals (refine nx_op ?_; refine opw_store rfl rfl rfl ?_)
  all_goals (refine nx_nil ?_; refine kp_code_normal ?_; refine nx_seq ?_; refine nx_region ?_; refine nx_op ?_; refine opw_yld (Yld.move rfl) rfl ?_; refine nx_op ?_; refine opw_yld (Yld.assign rfl) rfl ?_; refine nx_op ?_; refine opw_yld (Yld.assign rfl) rfl ?_; refine nx_nil ?_; refine kp_code_normal ?_; refine nx_ret ?_)
  all_goals (exact mk_fin hT hN hcT hS hxn hpre hdl hm' hB ho2 (by simp_all [newF]) rfl rfl)
end
end Go.Proofs.YtdobndclhbkooaaDoor
