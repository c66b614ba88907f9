/- A tree of items. Conditions: the items and their bytes lie in the memory that is kept. -/
import Derived.Test.YtdobndclhbkooaaDoorNd8
namespace Go.Proofs.YtdobndclhbkooaaDoor
open Go Go.SL
set_option maxRecDepth 100000
set_option linter.unusedVariables false

structure ItemR where
  path : ByteArray
  kind : Int
  mode : Int
  data : List UInt8
  dv : Value
def itemV (i : ItemR) : List Value := [.string i.path, .int .i64 i.kind, .int .i64 i.mode, i.dv]
def itemsV (l : List ItemR) : List Value := l.flatMap itemV
theorem itemsV_length (l : List ItemR) : (itemsV l).length = l.length * 4 := by
  induction l with
  | nil => rfl
  | cons e l ih => simp [itemsV, itemV] at ih ⊢; omega
theorem itemsV_drop (l : List ItemR) (k : Nat) : (itemsV l).drop (k * 4) = itemsV (l.drop k) := by
  induction l generalizing k with
  | nil => simp [itemsV]
  | cons e l ih =>
    cases k with
    | zero => simp
    | succ k =>
      have := ih k
      simp only [itemsV, List.flatMap_cons, itemV, List.drop_succ_cons] at this ⊢
      rw [show (k + 1) * 4 = k * 4 + 1 + 1 + 1 + 1 from by omega]
      simpa using this
def rootF : FileR := ⟨2, 493, [], [], 1, 0, 0⟩
def newGo (A : Fs) : List ItemR → Int × Fs
  | [] => (0, A)
  | i :: r => if (itemA A i.path i.kind i.mode i.data).1 ≠ 0 then itemA A i.path i.kind i.mode i.data else newGo (itemA A i.path i.kind i.mode i.data).2 r
def newA (l : List ItemR) : Int × Fs := newGo [(1, rootF)] l

section
variable {F : Chunk}
def NewPost (l : List ItemR) (v : Value) (B : List Chunk) : Prop :=
  ((newA l).1 ≠ 0 ∧ v = .tuple #[.pointer none, .int .i64 (newA l).1] ∧ B = []) ∨
  ((newA l).1 = 0 ∧ ∃ T : Tr, T.ok ∧ T.N ≤ l.length ∧ abs T.S = (newA l).2 ∧ v = .tuple #[.pointer (some ⟨T.t, 0, none⟩), .int .i64 0] ∧ B = [T.chunk])

theorem sp10 {v : Value} {l : List ItemR} (hv : Ro F v l.length (itemsV l)) (hd : ∀ i ∈ l, Ro F i.dv i.data.length (bytesV i.data)) (hl : l.length < 100000000) :
    Sp Tryd.prog 10 [v] F [] (NewPost l) := by
  obtain ⟨a, cap, e⟩ := Ro_slice hv
  subst e
  have hm0 : MapIs .i64 #[] [] := rfl
  refine sp_enter Tryd.func10 rfl Tryd.ntmps10 rfl (fun g => ?_)
  simp only [argFr, List.nil_append, Nat.reduceAdd]
  all_goals (refine nx_seq ?_; refine nx_region ?_; refine nx_op ?_; refine opw_yld (Yld.assign rfl) rfl ?_; refine nx_op ?_; refine opw_yld (Yld.assign rfl) rfl ?_; refine nx_nil ?_; refine kp_code_normal ?_; refine nx_seq ?_; refine nx_region ?_)
  all_goals (refine nx_op ?_; refine opw_alc Alc.makeMap rfl (fun b8 => ?_))
  all_goals (refine nx_op ?_; refine opw_yld (Yld.build (cs := [.int .i64 2, .int .i64 493, .slice none 0 0, .slice none 0 0, .int .i64 1, .int .i64 0, .int .i64 0]) rfl rfl) rfl ?_)
  all_goals (refine nx_op ?_; refine opw_alc (Alc.boxAgg rfl) rfl (fun b10 => ?_))
  all_goals (refine nx_op ?_; refine opw_insert rfl rfl rfl hm0 ?_; intro es0 ck0 hm1)
  all_goals (refine nx_op ?_; refine opw_yld (Yld.move rfl) rfl ?_; refine nx_op ?_; refine opw_yld (Yld.build (cs := [.map (some b8)]) rfl rfl) rfl ?_)
  all_goals (refine nx_op ?_; refine opw_alc (Alc.boxAgg rfl) rfl (fun b13 => ?_))
  all_goals (refine nx_op ?_; refine opw_yld (Yld.assign rfl) rfl ?_; refine nx_nil ?_; refine kp_code_normal ?_; refine nx_seq ?_; refine nx_seq ?_; refine nx_region ?_; refine nx_op ?_; refine opw_yld (Yld.move rfl) rfl ?_; refine nx_op ?_; refine opw_yld (Yld.lenSlice rfl) rfl ?_; refine nx_op ?_; refine opw_yld (Yld.move rfl) rfl ?_; refine nx_nil ?_; refine kp_code_normal ?_; refine nx_block ?_)
  refine Nx.take [[(b13, .cells [.map (some b8)].toArray 91 (0, 0))], [(b8, .map es0 ck0)], [(b10, .cells [.int .i64 2, .int .i64 493, .slice none 0 0, .slice none 0 0, .int .i64 1, .int .i64 0, .int .i64 0].toArray 88 (0, 0))], F] inferInstance ?_
  let T0 : Tr := ⟨b13, b8, es0, ck0, [⟨1, rootF, b10, .slice none 0 0, .slice none 0 0, [], []⟩], 0⟩
  have hT0 : T0.ok := ⟨hm1, by intro x hx; simp [T0] at hx; subst hx; exact ⟨Own.nil _ _, Own.nil _ _, by simp [rootF]⟩, by simp [T0], by intro x hx; simp [T0] at hx; subst hx; simp [rootF]⟩
  refine Nx.flat [T0.chunk, F] (by simp [T0, Tr.chunk, Tr.head, Nd.chunk, rootF]) ?_
  refine nx_loop (fun fr L m => ∃ (i : Nat) (T : Tr), i ≤ l.length ∧ m = l.length - i ∧ T.ok ∧ T.N ≤ i ∧ newGo (abs T.S) (l.drop i) = newA l ∧
      fr = [(4, .pointer (some ⟨T.t, 0, none⟩)), (14, .slice a l.length cap), (15, .int .i64 l.length), (16, .int .i64 i)] ∧ L = [T.chunk, F])
    (L' := [T0.chunk, F]) ⟨0, T0, by omega, rfl, hT0, Nat.le_refl _, rfl, rfl, rfl⟩ (by repeat' (first | exact .nil | refine .cons rfl ?_)) inferInstance ?_
  rintro fr L m ⟨i, T, hi, rfl, hT, hN, hgo, rfl, rfl⟩
  by_cases hlt : i < l.length
  case neg =>
    have hb : decide ((i : Int) < (l.length : Int)) = false := by simp; omega
    rw [List.drop_eq_nil_of_le (by omega)] at hgo
    all_goals (refine nx_seq ?_; refine nx_region ?_; refine nx_op ?_; refine opw_yld (Yld.cmp rfl rfl rfl) rfl ?_; refine nx_nil ?_; refine kp_code_normal ?_; refine nx_seq ?_)
    all_goals (refine nx_cond rfl (fun hc => ?_) (fun hc => ?_))
    all_goals (first | (exact Bool.noConfusion (hc.symm.trans (by first | rfl | assumption) : true = false)) | (exact Bool.noConfusion (hc.symm.trans (by first | rfl | assumption) : false = true)) | (all_goals refine nx_skip ?_) | (all_goals (refine nx_exit ?_; refine kp_code_exit ?_; refine kp_loop_exit ?_; refine kp_blk_exit rfl ?_; refine kp_code_normal ?_; refine nx_seq ?_; refine nx_region ?_; refine nx_op ?_; refine opw_yld (Yld.move rfl) rfl ?_; refine nx_op ?_; refine opw_yld (Yld.assign rfl) rfl ?_; refine nx_op ?_; refine opw_yld (Yld.assign rfl) rfl ?_; refine nx_nil ?_; refine kp_code_normal ?_; refine nx_ret ?_); all_goals (exact res2 (by first | exact .inl rfl | exact .inr rfl) Tryd.results10 rfl rfl [T.chunk] inferInstance (.inr ⟨by rw [← hgo]; rfl, T, hT, by omega, by rw [← hgo]; rfl, rfl, rfl⟩))))
    all_goals (refine kp_code_normal ?_; refine nx_seq ?_; refine nx_block ?_; refine nx_seq ?_; refine nx_region ?_; refine nx_op ?_; refine opw_yld (Yld.indexAddr rfl rfl (by omega)) rfl ?_; refine nx_op ?_; refine opw_yld (Yld.loadAgg rfl) rfl ?_)
    all_goals (refine nx_op ?_; refine opw_alc Alc.alloc rfl (fun b6 => ?_))
    all_goals (refine nx_op ?_; refine opw_storeAgg rfl rfl rfl (by simp [Value.oneCell']) ?_)
    all_goals (refine nx_nil ?_; refine kp_code_normal ?_; refine nx_seq ?_; refine nx_region ?_; refine nx_op ?_; refine opw_yld (Yld.move rfl) rfl ?_; refine nx_op ?_; refine opw_yld (Yld.loadAgg rfl) rfl ?_)
    all_goals (refine nx_op ?_; (fail))
    all_goals (refine nx_op ?_; refine opw_yld (Yld.assign rfl) rfl ?_; refine nx_nil ?_; refine kp_code_normal ?_; refine nx_seq ?_; refine nx_region ?_; refine nx_op ?_; refine opw_yld (Yld.move rfl) rfl ?_; refine nx_op ?_; refine opw_yld (Yld.cmp rfl rfl rfl) rfl ?_; refine nx_nil ?_; refine kp_code_normal ?_)
    all_goals (refine nx_cond rfl (fun hc => ?_) (fun hc => ?_))
    all_goals (first | (exact Bool.noConfusion (hc.symm.trans (by first | rfl | assumption) : true = false)) | (exact Bool.noConfusion (hc.symm.trans (by first | rfl | assumption) : false = true)) | (all_goals (refine nx_seq ?_; refine nx_region ?_; refine nx_op ?_; refine opw_yld (Yld.move rfl) rfl ?_; refine nx_op ?_; refine opw_yld (Yld.assign rfl) rfl ?_; refine nx_op ?_; refine opw_yld (Yld.assign rfl) rfl ?_; refine nx_nil ?_; refine kp_code_normal ?_; refine nx_ret ?_; refine kp_blk_ret ?_; refine kp_code_ret ?_; refine kp_loop_ret ?_; refine kp_blk_ret ?_; refine kp_code_ret ?_); all_goals (exact res2 (by first | exact .inl rfl | exact .inr rfl) Tryd.results10 rfl rfl [T.chunk] inferInstance (.inr ⟨by rw [← hgo]; rfl, T, hT, by omega, by rw [← hgo]; rfl, rfl, rfl⟩))) | (all_goals refine nx_skip ?_))
    all_goals (refine kp_blk_normal ?_; refine kp_code_normal ?_; refine nx_region ?_)
    all_goals (refine nx_op ?_; (first | refine opw_yld (Yld.addI rfl rfl (by omega) (by omega)) rfl ?_ | refine opw_yld (Yld.add rfl rfl) rfl ?_))
    all_goals (refine nx_op ?_; refine opw_yld (Yld.move rfl) rfl ?_; refine nx_nil ?_)
  have hb : decide ((i : Int) < (l.length : Int)) = true := by simp; omega
  rcases hv with ⟨h0, h1, h2⟩ | ⟨b, o, cap', cs, et, z, h0, hcap, hm, hcs⟩
  · omega
  cases h0
  have hdr : l.drop i = l[i] :: l.drop (i + 1) := List.drop_eq_getElem_cons hlt
  have hdv := hd l[i] (List.getElem_mem hlt)
  generalize l[i] = it at hdr hdv
  have i1 : InC b (.cells cs.toArray et z) F := ⟨hm⟩
  have hsub : SubL cs (o + i * 4) 4 [.string it.path, .int .i64 it.kind, .int .i64 it.mode, it.dv] := ⟨by
    refine ⟨?_, rfl⟩
    have h3 := itemsV_drop l i
    rw [← hcs, hdr] at h3
    have h4 : itemsV (it :: l.drop (i + 1)) = [.string it.path, .int .i64 it.kind, .int .i64 it.mode, it.dv] ++ itemsV (l.drop (i + 1)) := by simp [itemsV, itemV]
    rw [h4, itemsV_length, List.drop_take, List.drop_drop] at h3
    have h5 := congrArg (List.take 4) h3
    rw [List.take_take, Nat.min_eq_left (by omega)] at h5
    simpa using h5⟩
  obtain ⟨da, dcap, hdve⟩ := Ro_slice hdv
  rw [hdve] at hsub hdv
  rw [hdr] at hgo
  generalize hr : itemA (abs T.S) it.path it.kind it.mode it.data = r at *
  obtain ⟨e, A'⟩ := r
  simp only [newGo, hr] at hgo
  by_cases he : e = 0
  · subst he
    simp only [ne_eq, not_true_eq_false, if_false] at hgo
    all_goals (refine nx_seq ?_; refine nx_region ?_; refine nx_op ?_; refine opw_yld (Yld.cmp rfl rfl rfl) rfl ?_; refine nx_nil ?_; refine kp_code_normal ?_; refine nx_seq ?_)
    all_goals (refine nx_cond rfl (fun hc => ?_) (fun hc => ?_))
    all_goals (first | (exact Bool.noConfusion (hc.symm.trans (by first | rfl | assumption) : true = false)) | (exact Bool.noConfusion (hc.symm.trans (by first | rfl | assumption) : false = true)) | (all_goals refine nx_skip ?_) | (all_goals (refine nx_exit ?_; refine kp_code_exit ?_; refine kp_loop_exit ?_; refine kp_blk_exit rfl ?_; refine kp_code_normal ?_; refine nx_seq ?_; refine nx_region ?_; refine nx_op ?_; refine opw_yld (Yld.move rfl) rfl ?_; refine nx_op ?_; refine opw_yld (Yld.assign rfl) rfl ?_; refine nx_op ?_; refine opw_yld (Yld.assign rfl) rfl ?_; refine nx_nil ?_; refine kp_code_normal ?_; refine nx_ret ?_); all_goals (fail)))
    all_goals (refine kp_code_normal ?_; refine nx_seq ?_; refine nx_block ?_; refine nx_seq ?_; refine nx_region ?_; refine nx_op ?_; refine opw_yld (Yld.indexAddr rfl rfl (by omega)) rfl ?_; refine nx_op ?_; refine opw_yld (Yld.loadAgg rfl) rfl ?_)
    all_goals (refine nx_op ?_; refine opw_alc Alc.alloc rfl (fun b6 => ?_))
    all_goals (refine nx_op ?_; refine opw_storeAgg rfl rfl rfl (by simp [Value.oneCell']) ?_)
    all_goals (refine nx_nil ?_; refine kp_code_normal ?_; refine nx_seq ?_; refine nx_region ?_; refine nx_op ?_; refine opw_yld (Yld.move rfl) rfl ?_; refine nx_op ?_; refine opw_yld (Yld.loadAgg rfl) rfl ?_)
    all_goals (refine nx_op ?_; (refine opw_call rfl (sp40 hT (by omega) it.path it.kind it.mode (data := it.data) (hdv.mono (by simp +contextual))) inferInstance rfl ?_; rintro _ _ ⟨rfl, T', hT', ht', hN', ha', rfl⟩; simp only [List.cons_append, List.nil_append, hr] at ha' ⊢))
    all_goals (refine nx_op ?_; refine opw_yld (Yld.assign rfl) rfl ?_; refine nx_nil ?_; refine kp_code_normal ?_; refine nx_seq ?_; refine nx_region ?_; refine nx_op ?_; refine opw_yld (Yld.move rfl) rfl ?_; refine nx_op ?_; refine opw_yld (Yld.cmp rfl rfl rfl) rfl ?_; refine nx_nil ?_; refine kp_code_normal ?_)
    all_goals (refine nx_cond rfl (fun hc => ?_) (fun hc => ?_))
    all_goals (first | (exact Bool.noConfusion (hc.symm.trans (by first | rfl | assumption) : true = false)) | (exact Bool.noConfusion (hc.symm.trans (by first | rfl | assumption) : false = true)) | (all_goals (refine nx_seq ?_; refine nx_region ?_; refine nx_op ?_; refine opw_yld (Yld.move rfl) rfl ?_; refine nx_op ?_; refine opw_yld (Yld.assign rfl) rfl ?_; refine nx_op ?_; refine opw_yld (Yld.assign rfl) rfl ?_; refine nx_nil ?_; refine kp_code_normal ?_; refine nx_ret ?_; refine kp_blk_ret ?_; refine kp_code_ret ?_; refine kp_loop_ret ?_; refine kp_blk_ret ?_; refine kp_code_ret ?_); all_goals (fail)) | (all_goals refine nx_skip ?_))
    all_goals (refine kp_blk_normal ?_; refine kp_code_normal ?_; refine nx_region ?_; refine nx_op ?_; refine opw_yld (Yld.addI rfl rfl (by omega) (by omega)) rfl ?_; refine nx_op ?_; refine opw_yld (Yld.move rfl) rfl ?_; refine nx_nil ?_)
    refine nx_round (m' := l.length - (i + 1)) (L' := [T'.chunk, F]) ⟨i + 1, T', by omega, rfl, hT', by omega, by rw [ha']; exact hgo, by rw [ht'], rfl⟩ (by omega) (by repeat' (first | exact .nil | refine .cons rfl ?_)) inferInstance
  · rw [if_pos he] at hgo
    have hb2 : (e != 0) = true := by simpa using he
    have hg1 : (newA l).1 = e := by rw [← hgo]
    all_goals (refine nx_seq ?_; refine nx_region ?_; refine nx_op ?_; refine opw_yld (Yld.cmp rfl rfl rfl) rfl ?_; refine nx_nil ?_; refine kp_code_normal ?_; refine nx_seq ?_)
    all_goals (refine nx_cond rfl (fun hc => ?_) (fun hc => ?_))
    all_goals (first | (exact Bool.noConfusion (hc.symm.trans (by first | rfl | assumption) : true = false)) | (exact Bool.noConfusion (hc.symm.trans (by first | rfl | assumption) : false = true)) | (all_goals refine nx_skip ?_) | (all_goals (refine nx_exit ?_; refine kp_code_exit ?_; refine kp_loop_exit ?_; refine kp_blk_exit rfl ?_; refine kp_code_normal ?_; refine nx_seq ?_; refine nx_region ?_; refine nx_op ?_; refine opw_yld (Yld.move rfl) rfl ?_; refine nx_op ?_; refine opw_yld (Yld.assign rfl) rfl ?_; refine nx_op ?_; refine opw_yld (Yld.assign rfl) rfl ?_; refine nx_nil ?_; refine kp_code_normal ?_; refine nx_ret ?_); all_goals (exact res2 (by first | exact .inl rfl | exact .inr rfl) Tryd.results10 rfl rfl [] inferInstance (.inl ⟨by rw [hg1]; exact he, by rw [hg1], rfl⟩))))
    all_goals (refine kp_code_normal ?_; refine nx_seq ?_; refine nx_block ?_; refine nx_seq ?_; refine nx_region ?_; refine nx_op ?_; refine opw_yld (Yld.indexAddr rfl rfl (by omega)) rfl ?_; refine nx_op ?_; refine opw_yld (Yld.loadAgg rfl) rfl ?_)
    all_goals (refine nx_op ?_; refine opw_alc Alc.alloc rfl (fun b6 => ?_))
    all_goals (refine nx_op ?_; refine opw_storeAgg rfl rfl rfl (by simp [Value.oneCell']) ?_)
    all_goals (refine nx_nil ?_; refine kp_code_normal ?_; refine nx_seq ?_; refine nx_region ?_; refine nx_op ?_; refine opw_yld (Yld.move rfl) rfl ?_; refine nx_op ?_; refine opw_yld (Yld.loadAgg rfl) rfl ?_)
    all_goals (refine nx_op ?_; (refine opw_call rfl (sp40 hT (by omega) it.path it.kind it.mode (data := it.data) (hdv.mono (by simp +contextual))) inferInstance rfl ?_; rintro _ _ ⟨rfl, T', hT', ht', hN', ha', rfl⟩; simp only [List.cons_append, List.nil_append, hr] at ha' ⊢))
    all_goals (refine nx_op ?_; refine opw_yld (Yld.assign rfl) rfl ?_; refine nx_nil ?_; refine kp_code_normal ?_; refine nx_seq ?_; refine nx_region ?_; refine nx_op ?_; refine opw_yld (Yld.move rfl) rfl ?_; refine nx_op ?_; refine opw_yld (Yld.cmp rfl rfl rfl) rfl ?_; refine nx_nil ?_; refine kp_code_normal ?_)
    all_goals (refine nx_cond rfl (fun hc => ?_) (fun hc => ?_))
    all_goals (first | (exact Bool.noConfusion (hc.symm.trans (by first | rfl | assumption) : true = false)) | (exact Bool.noConfusion (hc.symm.trans (by first | rfl | assumption) : false = true)) | (all_goals (refine nx_seq ?_; refine nx_region ?_; refine nx_op ?_; refine opw_yld (Yld.move rfl) rfl ?_; refine nx_op ?_; refine opw_yld (Yld.assign rfl) rfl ?_; refine nx_op ?_; refine opw_yld (Yld.assign rfl) rfl ?_; refine nx_nil ?_; refine kp_code_normal ?_; refine nx_ret ?_; refine kp_blk_ret ?_; refine kp_code_ret ?_; refine kp_loop_ret ?_; refine kp_blk_ret ?_; refine kp_code_ret ?_); all_goals (exact res2 (by first | exact .inl rfl | exact .inr rfl) Tryd.results10 rfl rfl [] inferInstance (.inl ⟨by rw [hg1]; exact he, by rw [hg1], rfl⟩))) | (all_goals refine nx_skip ?_))
    all_goals (refine kp_blk_normal ?_; refine kp_code_normal ?_; refine nx_region ?_)
    all_goals (refine nx_op ?_; fail)
    all_goals (refine nx_op ?_; refine opw_yld (Yld.move rfl) rfl ?_; refine nx_nil ?_)
end
end Go.Proofs.YtdobndclhbkooaaDoor
