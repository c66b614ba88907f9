/- The plain law of WalkLinks. Conditions: none. -/
import Derived.Test.YtdobndclhbkooaaDoorLa
namespace Go.Proofs.YtdobndclhbkooaaDoor
open Go Go.SL
set_option maxRecDepth 100000
set_option linter.unusedVariables false

def udecF : Nat → Nat → List UInt8 → List UInt8
  | 0, _, s => s
  | f + 1, v, s => if v / 10 = 0 then UInt8.ofNat (48 + v % 10) :: s else udecF f (v / 10) (UInt8.ofNat (48 + v % 10) :: s)
def decB (n : Nat) : List UInt8 := udecF 20 n []
def lkTo (k : Nat) (round : Bool) (i : Nat) : List UInt8 := if i = k then (bif round then [108, 49] else [101, 110, 100]) else 108 :: decB (i + 1)
def lkItem (k : Nat) (round : Bool) (i : Nat) : ItemR := ⟨ofBs (47 :: 108 :: decB i), 3, 0, lkTo k round i, .slice none 0 0⟩
def lkItems (k : Nat) (round : Bool) : List ItemR := (List.range k).map (fun i => lkItem k round (i + 1)) ++ [⟨ofBs [47, 101, 110, 100], 2, 0, [], .slice none 0 0⟩]
/-! A tree that only grew has the numbers from one on: the least free number is one more than there are nodes. -/
def seqA (A : Fs) : Prop := A.map (·.1) = (List.range A.length).map fun i => ((i + 1 : Nat) : Int)
theorem freeA_spec (A : Fs) : fndA A (freeA A : Nat) = none ∧ 1 ≤ freeA A ∧ freeA A ≤ A.length + 1 := by
  have e : abs (A.map fun p => (⟨p.1, p.2, 0, .nilFunc, .nilFunc, [], []⟩ : Nd)) = A := by simp [abs, Function.comp_def]
  have h := freeN_spec (A.map fun p => (⟨p.1, p.2, 0, .nilFunc, .nilFunc, [], []⟩ : Nd))
  rw [freeN_abs, e, List.length_map] at h
  refine ⟨?_, h.2⟩
  have h2 := fndA_abs (A.map fun p => (⟨p.1, p.2, 0, .nilFunc, .nilFunc, [], []⟩ : Nd)) (freeA A : Nat)
  rw [e] at h2
  rw [h2, h.1]; rfl
theorem fndA_none {A : Fs} {n : Int} (h : fndA A n = none) : n ∉ A.map (·.1) := by
  simp only [fndA, Option.map_eq_none_iff, List.find?_eq_none] at h
  intro hm
  obtain ⟨p, hp, rfl⟩ := List.mem_map.1 hm
  exact h p hp (by simp)
theorem freeA_seq {A : Fs} (h : seqA A) : freeA A = A.length + 1 := by
  obtain ⟨h1, h2, h3⟩ := freeA_spec A
  by_cases e : freeA A = A.length + 1
  · exact e
  · exfalso
    apply fndA_none h1
    rw [h]
    exact List.mem_map.2 ⟨freeA A - 1, by simp; omega, by omega⟩
theorem updA_keys (A : Fs) (n : Int) (f : FileR) : (updA A n f).map (·.1) = A.map (·.1) := by
  induction A with
  | nil => rfl
  | cons p r ih =>
    simp only [updA]
    cases h : p.1 == n with
    | true => simp; exact (by simpa using h : p.1 = n).symm
    | false => simp [ih]
theorem updA_len (A : Fs) (n : Int) (f : FileR) : (updA A n f).length = A.length := by
  have := congrArg List.length (updA_keys A n f); simpa using this
def makeF (A : Fs) (dir : Int) (nm : ByteArray) (kind mode : Int) (data : List UInt8) : Int × Int × Fs :=
  let e := placeA A dir (bs nm)
  if (e = 2 ∧ (fndA A dir).isNone) ∨ e = 20 then (0, e, A)
  else bif !goodB kind mode data then (0, 22, A)
  else if e ≠ 0 then (0, e, A)
  else if 1024 ≤ A.length then (0, 28, A)
  else match fndA A dir with
    | none => (0, 2, A)
    | some f => ((A.length + 1 : Nat), 0, updA A dir (addE f nm (A.length + 1 : Nat) kind) ++ [(((A.length + 1 : Nat) : Int), newF kind mode data dir)])
theorem makeF_eq {A : Fs} (h : seqA A) (dir : Int) (nm : ByteArray) (kind mode : Int) (data : List UInt8) : makeA A dir nm kind mode data = makeF A dir nm kind mode data := by
  unfold makeA makeF
  rw [freeA_seq h]
  dsimp only
  split
  · rfl
  · cases goodB kind mode data with
    | false => rfl
    | true =>
      simp only [Bool.not_true, cond_false]
      split
      · rfl
      · split
        · rfl
        · cases fndA A dir <;> rfl
theorem makeF_seq {A : Fs} (h : seqA A) (dir : Int) (nm : ByteArray) (kind mode : Int) (data : List UInt8) : seqA (makeF A dir nm kind mode data).2.2 := by
  simp only [makeF]
  split
  · exact h
  · cases goodB kind mode data with
    | false => exact h
    | true =>
      simp only [Bool.not_true, cond_false]
      split
      · exact h
      · split
        · exact h
        · cases fndA A dir with
          | none => exact h
          | some f =>
            simp only [seqA, List.map_append, updA_keys, List.length_append, updA_len, List.length_cons, List.length_nil, List.range_succ]
            rw [show A.map (·.1) = _ from h]
            simp
def itemF (A : Fs) (path : ByteArray) (kind mode : Int) (data : List UInt8) : Int × Fs :=
  bif hasPre (bs path) [47] && decide (path.size ≤ 4096) then
    match itemGo A 1 (splitB 47 ((bs path).drop 1)) with
    | none => (203, A)
    | some (d, s) => (if (makeF A d (ofBs s) kind mode data).2.1 = 0 ∨ (makeF A d (ofBs s) kind mode data).2.1 = 28 then (makeF A d (ofBs s) kind mode data).2.1 else 203, (makeF A d (ofBs s) kind mode data).2.2)
  else (203, A)
theorem itemF_eq {A : Fs} (h : seqA A) (path : ByteArray) (kind mode : Int) (data : List UInt8) : itemA A path kind mode data = itemF A path kind mode data ∧ seqA (itemF A path kind mode data).2 := by
  unfold itemA itemF
  cases hasPre (bs path) [47] && decide (path.size ≤ 4096) with
  | false => exact ⟨rfl, h⟩
  | true =>
    simp only [cond_true]
    cases itemGo A 1 (splitB 47 ((bs path).drop 1)) with
    | none => exact ⟨rfl, h⟩
    | some q => exact ⟨by simp only [makeF_eq h], makeF_seq h _ _ _ _ _⟩
def newGoF (A : Fs) : List ItemR → Int × Fs
  | [] => (0, A)
  | i :: r => if (itemF A i.path i.kind i.mode i.data).1 ≠ 0 then itemF A i.path i.kind i.mode i.data else newGoF (itemF A i.path i.kind i.mode i.data).2 r
theorem newGoF_eq : ∀ (l : List ItemR) {A : Fs}, seqA A → newGo A l = newGoF A l
  | [], A, h => rfl
  | i :: r, A, h => by
    obtain ⟨h1, h2⟩ := itemF_eq h i.path i.kind i.mode i.data
    simp only [newGo, newGoF, h1, newGoF_eq r h2]
theorem newA_eq (l : List ItemR) : newA l = newGoF [(1, rootF)] l := newGoF_eq l rfl
def lkChk (k : Nat) (round : Bool) : Bool :=
  let q := newGoF [(1, rootF)] (lkItems k round)
  q.1 == 0 &&
  (let f := walkA q.2 1 [108, 49] true
   let h := walkA q.2 1 [108, 49] false
   let p := walkA q.2 1 [108, 49, 47, 120] false
   h.2 == 0 && h.1.2.1 == [108, 49] && h.1.2.2 == 2 &&
   (bif round || decide (40 < k) then f.2 == 40 && p.2 == 40 && f.1.2.2 == 0
    else f.2 == 0 && f.1.2.1 == [101, 110, 100] && f.1.2.2 == (k : Int) + 2 && p.2 == 0 && p.1.1 == (k : Int) + 2 && p.1.2.2 == 0))
theorem lk_all0 : ((List.range 5).all fun k => lkChk (k + 1) true && lkChk (k + 1) false) = true := by decide +kernel
theorem lk_all1 : ((List.range 5).all fun k => lkChk (k + 6) true && lkChk (k + 6) false) = true := by decide +kernel
theorem lk_all2 : ((List.range 5).all fun k => lkChk (k + 11) true && lkChk (k + 11) false) = true := by decide +kernel
theorem lk_all3 : ((List.range 5).all fun k => lkChk (k + 16) true && lkChk (k + 16) false) = true := by decide +kernel
theorem lk_all4 : ((List.range 5).all fun k => lkChk (k + 21) true && lkChk (k + 21) false) = true := by decide +kernel
theorem lk_all5 : ((List.range 5).all fun k => lkChk (k + 26) true && lkChk (k + 26) false) = true := by decide +kernel
theorem lk_all6 : ((List.range 5).all fun k => lkChk (k + 31) true && lkChk (k + 31) false) = true := by decide +kernel
theorem lk_all7 : ((List.range 5).all fun k => lkChk (k + 36) true && lkChk (k + 36) false) = true := by decide +kernel
theorem lk_all8 : ((List.range 5).all fun k => lkChk (k + 41) true && lkChk (k + 41) false) = true := by decide +kernel
theorem lk_all9 : ((List.range 5).all fun k => lkChk (k + 46) true && lkChk (k + 46) false) = true := by decide +kernel
theorem lk_all10 : ((List.range 5).all fun k => lkChk (k + 51) true && lkChk (k + 51) false) = true := by decide +kernel
theorem lk_all11 : ((List.range 5).all fun k => lkChk (k + 56) true && lkChk (k + 56) false) = true := by decide +kernel
theorem lk_chk {k : Nat} (h1 : 1 ≤ k) (h2 : k ≤ 60) (r : Bool) : lkChk k r = true := by
  have key : ∀ a, ((List.range 5).all fun k => lkChk (k + a) true && lkChk (k + a) false) = true → a ≤ k → k < a + 5 → lkChk k r = true := fun a h ha hb => by
    have h := List.all_eq_true.1 h (k - a) (by simp; omega)
    rw [show k - a + a = k from by omega, Bool.and_eq_true] at h
    cases r
    · exact h.2
    · exact h.1
  by_cases c0 : k < 6
  · exact key 1 lk_all0 (by omega) (by omega)
  by_cases c1 : k < 11
  · exact key 6 lk_all1 (by omega) (by omega)
  by_cases c2 : k < 16
  · exact key 11 lk_all2 (by omega) (by omega)
  by_cases c3 : k < 21
  · exact key 16 lk_all3 (by omega) (by omega)
  by_cases c4 : k < 26
  · exact key 21 lk_all4 (by omega) (by omega)
  by_cases c5 : k < 31
  · exact key 26 lk_all5 (by omega) (by omega)
  by_cases c6 : k < 36
  · exact key 31 lk_all6 (by omega) (by omega)
  by_cases c7 : k < 41
  · exact key 36 lk_all7 (by omega) (by omega)
  by_cases c8 : k < 46
  · exact key 41 lk_all8 (by omega) (by omega)
  by_cases c9 : k < 51
  · exact key 46 lk_all9 (by omega) (by omega)
  by_cases c10 : k < 56
  · exact key 51 lk_all10 (by omega) (by omega)
  by_cases c11 : k < 61
  · exact key 56 lk_all11 (by omega) (by omega)
  omega
end Go.Proofs.YtdobndclhbkooaaDoor
