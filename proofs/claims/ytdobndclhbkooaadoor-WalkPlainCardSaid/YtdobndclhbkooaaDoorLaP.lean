/- The plain law of WalkPlain: in a tree of directories alone the two paths lead to the same. Conditions: none. -/
import Derived.Test.YtdobndclhbkooaaDoorLa
namespace Go.Proofs.YtdobndclhbkooaaDoor
open Go Go.SL
set_option maxRecDepth 100000
set_option linter.unusedVariables false

/-! Paths. -/
theorem splitB_ne (c : UInt8) : ∀ l, splitB c l ≠ [] := fun l h => by
  have := splitB_len c l
  rw [h] at this; simp at this
theorem splitB_app (c : UInt8) : ∀ (a b : List UInt8), splitB c (a ++ c :: b) = splitB c a ++ splitB c b
  | [], b => by simp [splitB]
  | x :: a, b => by
    have ih := splitB_app c a b
    simp only [List.cons_append, splitB]
    cases hx : x == c with
    | true => simp [ih]
    | false =>
      simp only [Bool.false_eq_true, if_false]
      rw [ih]
      cases hs : splitB c a with
      | nil => exact absurd hs (splitB_ne c a)
      | cons p r => rfl
theorem namesB_app (a b : List UInt8) : namesB (a ++ 47 :: b) = namesB a ++ namesB b := by simp [namesB, splitB_app]
theorem namesB_nil : namesB [] = [] := rfl
theorem hasSuf_last (a : List UInt8) (c : UInt8) (h : (c == 47) = false) : hasSuf (a ++ [c]) [47] = false := by
  simp [hasSuf]; intro e; simp [e] at h

/-! Trees of directories. -/
def abc : List (List UInt8) := [[97], [98], [99]]
def inA (A : Fs) (d : Int) : Bool := A.any fun p => p.1 == d
def chkA (A : Fs) : Bool := A.all fun p => kindA A p.1 == 2 && abc.all fun s => bif (findA A p.1 s).2 == 0 then inA A (findA A p.1 s).1 && parentA A (findA A p.1 s).1 == p.1 else true
theorem chk_at {A : Fs} (h : chkA A = true) {d : Int} (hd : inA A d = true) : kindA A d = 2 ∧ ∀ s ∈ abc, (findA A d s).2 = 0 → inA A (findA A d s).1 = true ∧ parentA A (findA A d s).1 = d := by
  obtain ⟨p, hp, e⟩ := List.any_eq_true.1 hd
  have e' : p.1 = d := by simpa using e
  have h1 := List.all_eq_true.1 h p hp
  rw [e', Bool.and_eq_true] at h1
  refine ⟨by simpa using h1.1, fun s hs h0 => ?_⟩
  have h2 := List.all_eq_true.1 h1.2 s hs
  simpa [h0] using h2
theorem kind_fnd {A : Fs} {d : Int} (h : kindA A d = 2) : ∃ f, fndA A d = some f ∧ f.kind = 2 := by
  unfold kindA at h
  cases hf : fndA A d with
  | none => rw [hf] at h; exact absurd h (by decide)
  | some f => exact ⟨f, rfl, by rw [hf] at h; exact h⟩
theorem find_dot {A : Fs} {d : Int} (h : kindA A d = 2) : findA A d [46] = (d, 0) := by
  obtain ⟨f, h1, h2⟩ := kind_fnd h
  simp [findA, h1, h2]
theorem find_dots {A : Fs} {d : Int} (h : kindA A d = 2) : findA A d [46, 46] = (parentA A d, 0) := by
  obtain ⟨f, h1, h2⟩ := kind_fnd h
  simp [findA, h1, h2]
theorem step_dot {A : Fs} {R : Rec} {d : Int} {k : Nat} (h : kindA A d = 2) : stepA A R d [46] k = .ok (d, k) := by simp [stepA, find_dot h, h]
theorem step_dots {A : Fs} {R : Rec} {d : Int} {k : Nat} (h : kindA A d = 2) (hp : kindA A (parentA A d) = 2) : stepA A R d [46, 46] k = .ok (parentA A d, k) := by simp [stepA, find_dots h, hp]
theorem stepsA_app {A : Fs} {R : Rec} : ∀ (l r : List (List UInt8)) (d : Int) (k : Nat), stepsA A R d (l ++ r) k = match stepsA A R d l k with
    | .error e => .error e
    | .ok (d', k') => stepsA A R d' r k'
  | [], r, d, k => rfl
  | s :: l, r, d, k => by
    simp only [List.cons_append, stepsA]
    cases stepA A R d s k with
    | error e => rfl
    | ok q => exact stepsA_app l r q.1 q.2
def five (s : List UInt8) : List (List UInt8) := [[46], s, [46, 46], s, [46]]
theorem steps_five {A : Fs} {R : Rec} (hA : chkA A = true) : ∀ (ns : List (List UInt8)) (d : Int) (k : Nat), inA A d = true → (∀ s ∈ ns, s ∈ abc) →
    stepsA A R d (ns.flatMap five) k = stepsA A R d ns k ∧ ((∃ e, stepsA A R d ns k = .error e) ∨ ∃ d', stepsA A R d ns k = .ok (d', k) ∧ inA A d' = true)
  | [], d, k, hd, _ => ⟨rfl, .inr ⟨d, rfl, hd⟩⟩
  | s :: ns, d, k, hd, hs => by
    obtain ⟨hk, hf⟩ := chk_at hA hd
    have hf := hf s (hs s (List.mem_cons_self ..))
    rw [List.flatMap_cons, stepsA_app]
    generalize hq : findA A d s = q at hf
    obtain ⟨x, e⟩ := q
    by_cases he : e = 0
    · subst he
      obtain ⟨hx, hp⟩ := hf rfl
      have hkx := (chk_at hA hx).1
      have h1 : stepA A R d s k = .ok (x, k) := by simp [stepA, hq, hkx]
      have h2 : stepA A R x [46, 46] k = .ok (d, k) := by have := step_dots (R := R) (k := k) hkx (by simp only at hp; rw [hp]; exact hk); simp only at hp; rwa [hp] at this
      have h5 : stepsA A R d (five s) k = .ok (x, k) := by simp [five, stepsA, step_dot hk, h1, h2, step_dot hkx]
      have ih := steps_five (R := R) hA ns x k hx fun t ht => hs t (List.mem_cons_of_mem _ ht)
      rw [h5]
      simp only [stepsA, h1]
      exact ih
    · have h1 : stepA A R d s k = .error e := by simp [stepA, hq, he]
      have h5 : stepsA A R d (five s) k = .error e := by simp [five, stepsA, step_dot hk, h1]
      rw [h5]
      simp only [stepsA, h1]
      exact ⟨by first | rfl | trivial, .inl ⟨e, rfl⟩⟩

/-- A path that ends in a dot. -/
theorem walk_dot {A : Fs} {p : List UInt8} {ns : List (List UInt8)} (hn : namesB (p ++ [46]) = ns ++ [[46]]) (hh : (p ++ [46]).head? = some 47) (hlen : (p ++ [46]).length ≤ 4095) (hl : ∀ s ∈ ns, s.length ≤ 255)
    (hst : (∃ e, stepsA A (walkN A 40) 1 ns 40 = .error e) ∨ ∃ d', stepsA A (walkN A 40) 1 ns 40 = .ok (d', 40) ∧ kindA A d' = 2) :
    walkA A 1 (p ++ [46]) true = match stepsA A (walkN A 40) 1 ns 40 with
      | .error e => ((0, [], 0), e)
      | .ok (d, k) => ((d, [46], d), 0) := by
  have h1 : ¬ (p ++ [46] = []) := by simp
  have h2 : ¬ (4095 < (p ++ [46]).length) := by omega
  have h3 : ¬ (namesB (p ++ [46])).any (fun s => decide (255 < s.length)) = true := by
    rw [hn, List.any_eq_true]
    rintro ⟨s, hs, h⟩
    rcases List.mem_append.1 hs with hs | hs
    · have := hl s hs; simp at h; omega
    · simp at hs; subst hs; simp at h
  have h4 : ¬ namesB (p ++ [46]) = [] := by rw [hn]; simp
  have h5 : hasSuf (p ++ [46]) [47] = false := hasSuf_last p 46 rfl
  have hb : walkN A 41 1 (p ++ [46]) true 40 = (match stepsA A (walkN A 40) 1 ns 40 with
    | .error e => .error e
    | .ok (d, k) => lastA A (walkN A 40) d [46] true false k) := by
    show bodyA A (walkN A 40) 1 (p ++ [46]) true 40 = _
    unfold bodyA
    rw [if_neg h1, if_neg h2, if_pos hh]
    unfold restA
    rw [if_neg h3, if_neg h4, hn, h5, List.dropLast_concat, List.getLastD_concat]
    cases stepsA A (walkN A 40) 1 ns 40 <;> rfl
  unfold walkA
  rw [hb]
  rcases hst with ⟨e, h⟩ | ⟨d', h, hk⟩
  · rw [h]
  · rw [h]
    have : lastA A (walkN A 40) d' [46] true false 40 = .ok ((d', [46], d'), 40) := by simp [lastA, find_dot hk, hk]
    simp only [this]

def plainB (ns : List (List UInt8)) : List UInt8 := 47 :: ns.flatMap fun s => s ++ [47]
def longB (ns : List (List UInt8)) : List UInt8 := 47 :: ns.flatMap fun s => [46, 47] ++ s ++ [47, 47] ++ [46, 46, 47] ++ s ++ [47, 46, 47]
theorem plain_names : ∀ (ns : List (List UInt8)) (r : List UInt8), (∀ s ∈ ns, s ∈ abc) → namesB ((ns.flatMap fun s => s ++ [47]) ++ r) = ns ++ namesB r
  | [], r, _ => rfl
  | s :: ns, r, h => by
    have ih := plain_names ns r fun t ht => h t (List.mem_cons_of_mem _ ht)
    have hs := h s (List.mem_cons_self ..)
    simp only [List.flatMap_cons, List.append_assoc, List.cons_append, List.nil_append] at ih ⊢
    rw [namesB_app, ih]
    simp only [abc, List.mem_cons, List.not_mem_nil, or_false] at hs
    rcases hs with rfl | rfl | rfl <;> rfl
theorem long_names : ∀ (ns : List (List UInt8)) (r : List UInt8), (∀ s ∈ ns, s ∈ abc) → namesB ((ns.flatMap fun s => [46, 47] ++ s ++ [47, 47] ++ [46, 46, 47] ++ s ++ [47, 46, 47]) ++ r) = ns.flatMap five ++ namesB r
  | [], r, _ => rfl
  | s :: ns, r, h => by
    have ih := long_names ns r fun t ht => h t (List.mem_cons_of_mem _ ht)
    have hs := h s (List.mem_cons_self ..)
    simp only [List.flatMap_cons, List.append_assoc, List.cons_append, List.nil_append] at ih ⊢
    have e : ∀ X : List UInt8, namesB (46 :: 47 :: (s ++ 47 :: 47 :: 46 :: 46 :: 47 :: (s ++ 47 :: 46 :: 47 :: X))) = five s ++ namesB X := fun X => by
      rw [show (46 :: 47 :: (s ++ 47 :: 47 :: 46 :: 46 :: 47 :: (s ++ 47 :: 46 :: 47 :: X)) : List UInt8) = [46] ++ 47 :: (s ++ 47 :: ([] ++ 47 :: ([46, 46] ++ 47 :: (s ++ 47 :: ([46] ++ 47 :: X))))) from rfl,
        namesB_app, namesB_app, namesB_app, namesB_app, namesB_app, namesB_app]
      simp only [abc, List.mem_cons, List.not_mem_nil, or_false] at hs
      rcases hs with rfl | rfl | rfl <;> rfl
    rw [e, ih]
theorem abc_len {s : List UInt8} (h : s ∈ abc) : s.length = 1 := by
  simp only [abc, List.mem_cons, List.not_mem_nil, or_false] at h
  rcases h with rfl | rfl | rfl <;> rfl
theorem plain_len : ∀ (ns : List (List UInt8)), (∀ s ∈ ns, s ∈ abc) → (ns.flatMap fun s => s ++ [47]).length = 2 * ns.length
  | [], _ => rfl
  | s :: ns, h => by
    have := plain_len ns fun t ht => h t (List.mem_cons_of_mem _ ht)
    have := abc_len (h s (List.mem_cons_self ..))
    simp only [List.flatMap_cons, List.length_append, List.length_cons, List.length_nil] at *; omega
theorem long_len : ∀ (ns : List (List UInt8)), (∀ s ∈ ns, s ∈ abc) → (ns.flatMap fun s => [46, 47] ++ s ++ [47, 47] ++ [46, 46, 47] ++ s ++ [47, 46, 47]).length = 12 * ns.length
  | [], _ => rfl
  | s :: ns, h => by
    have := long_len ns fun t ht => h t (List.mem_cons_of_mem _ ht)
    have := abc_len (h s (List.mem_cons_self ..))
    simp only [List.flatMap_cons, List.length_append, List.length_cons, List.length_nil] at *; omega

/-- The law: both paths come to the same. -/
theorem plain_law {A : Fs} (hA : chkA A = true) (h1 : inA A 1 = true) (ns : List (List UInt8)) (hs : ∀ s ∈ ns, s ∈ abc) (hl : ns.length ≤ 8) :
    walkA A 1 (longB ns ++ [46]) true = walkA A 1 (plainB ns ++ [46]) true := by
  have hf := steps_five (R := walkN A 40) hA ns 1 40 h1 hs
  have hk : (∃ e, stepsA A (walkN A 40) 1 ns 40 = .error e) ∨ ∃ d', stepsA A (walkN A 40) 1 ns 40 = .ok (d', 40) ∧ kindA A d' = 2 := by
    rcases hf.2 with h | ⟨d, h, hd⟩
    · exact .inl h
    · exact .inr ⟨d, h, (chk_at hA hd).1⟩
  have e0 : ∀ X : List UInt8, namesB (47 :: X) = namesB X := fun X => by
    have := namesB_app [] X
    simpa [namesB_nil] using this
  have hp := plain_len ns hs
  have hq := long_len ns hs
  rw [walk_dot (p := plainB ns) (ns := ns) (by unfold plainB; rw [List.cons_append, e0, plain_names _ _ hs]; rfl) rfl (by simp only [plainB, List.length_append, List.length_cons, List.length_nil]; omega) (fun s h => by rw [abc_len (hs s h)]; omega) hk]
  rw [walk_dot (p := longB ns) (ns := ns.flatMap five) (by unfold longB; rw [List.cons_append, e0, long_names _ _ hs]; rfl) rfl (by simp only [longB, List.length_append, List.length_cons, List.length_nil]; omega) (fun s h => by
      obtain ⟨t, ht, h⟩ := List.mem_flatMap.1 h
      have := abc_len (hs t ht)
      simp only [five, List.mem_cons, List.not_mem_nil, or_false] at h
      rcases h with rfl | rfl | rfl | rfl | rfl <;> first | omega | (simp)) (by rw [hf.1]; exact hk)]
  rw [hf.1]
end Go.Proofs.YtdobndclhbkooaaDoor
