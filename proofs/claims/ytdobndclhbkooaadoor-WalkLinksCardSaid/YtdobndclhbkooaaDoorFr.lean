/- What every law of the seat needs: from the logic of blocks to the claim's own words; the world in which the listed variables lie. Conditions: none. -/
import Derived.Test.YtdobndclhbkooaaDoorWk6
import Derived.Test.YtdobndclhbkooaaDoorCards
import Derived.Test.YtdobndclhbkooaaDoorTie
import Derived.WalkKit
import Derived.ProofKit
import Derived.OpenShut
import Derived.ShutString
import Derived.ChangeOld
import Derived.Below
import Derived.Lib.LaidIn
import Derived.Lib.LaidU8
import Derived.Deep.DeepHandedRow
import Derived.Deep.DeepWitnessRowRef
namespace Go.Proofs.YtdobndclhbkooaaDoor
open Go Go.SL
open Go.ChangeShapes Go.WideShapes Go.ChangeAt Go.RowKit
set_option linter.unusedVariables false

theorem own : ownKnob Tryd.prog.godebug = none := by kernel_rfl
theorem laidOut : laidOutB Tryd.prog = true := by kernel_rfl

/-- All of a world's heap. -/
def heapC (w : World) : Chunk := w.heap.toList.zipIdx.map fun p => (p.2, p.1)
theorem heapC_mem {w : World} {i : Nat} {o : Obj} : (i, o) ∈ heapC w ↔ w.heap[i]? = some o := by
  simp only [heapC, List.mem_map, Prod.mk.injEq]
  constructor
  · rintro ⟨⟨a, b⟩, h, rfl, rfl⟩
    simpa using List.mem_zipIdx_iff_getElem?.1 h
  · intro h
    exact ⟨(o, i), List.mem_zipIdx_iff_getElem?.2 (by simpa using h), rfl, rfl⟩
theorem heapC_sat (w : World) : Sat ⟨w.os, w.tape, w.output, w.heap.size⟩ [heapC w] w := by
  refine ⟨rfl, rfl, rfl, Nat.le_refl _, ?_, fun x hx => heapC_mem.1 (by simpa using hx)⟩
  have : (heapC w).map Prod.fst = List.range w.heap.size := by
    simp [heapC, List.map_map, Function.comp_def, List.zipIdx_map_snd, List.range_eq_range']
  simp only [List.flatten_cons, List.flatten_nil, List.append_nil, this]
  exact List.nodup_range
theorem calls_of_sp {f : FuncId} {args : List Value} {post : Value → Prop} (W : World) (h : Sp Tryd.prog f args (heapC W) [] (fun v _ => post v)) :
    Calls Tryd.prog f args.toArray W fun e w' => ∃ v, e = .returned v ∧ post v ∧ Below W.heap.size W w' := by
  unfold Sp at h
  refine (h ⟨W.os, W.tape, W.output, W.heap.size⟩ W (by simpa using heapC_sat W)).mono ?_
  rintro e w' ⟨v, B, rfl, hp, hs⟩
  refine ⟨v, rfl, hp, hs.os, hs.tape, hs.output, hs.size, fun k hk => ?_⟩
  rw [hs.holds (k, W.heap[k]) (by simp only [List.flatten_append, List.flatten_cons, List.flatten_nil, List.append_nil, List.mem_append]; exact .inr (heapC_mem.2 (by simp [Array.getElem?_eq_getElem hk]))), Array.getElem?_eq_getElem hk]

/-- What is known of a slice of integers that came in. -/
def IsRow (k : IntKind) (w : World) (a : Option Addr) (len cap : Nat) (zs : List Int) : Prop :=
  (a = none ∧ len = 0 ∧ cap = 0 ∧ zs = []) ∨
  ∃ x, a = some x ∧ len ≤ cap ∧ cap ≤ maxLen ∧ zs.length = cap ∧ (∀ i, i < zs.length → w.cell? (x.add i) = some (.int k (zs.getD i 0))) ∧ ∀ n ∈ zs, (Lit.int k n).wf = true
theorem cell_heap {w : World} {x : Addr} {v : Value} (h : w.cell? x = some v) : x.spot = none ∧ ∃ cs e z, w.heap[x.block]? = some (.cells cs e z) ∧ cs[x.off]? = some v := by
  unfold World.cell? at h
  split at h
  · rename_i c e z hc
    split at h
    · cases h
    · rename_i hs
      exact ⟨by simpa using hs, c, e, z, hc, h⟩
  · cases h
theorem row_ro {w : World} {a : Option Addr} {len cap : Nat} {zs : List Int} (h : IsRow .u8 w a len cap zs) :
    ∃ l : List UInt8, l.length = len ∧ (0 < len → Ro (heapC w) (.slice a len cap) len (bytesV l)) := by
  rcases h with ⟨rfl, rfl, rfl, rfl⟩ | ⟨x, rfl, hl, hm, hz, hc, hw⟩
  · exact ⟨[], rfl, fun h => absurd h (by omega)⟩
  · refine ⟨(zs.take len).map fun z => UInt8.ofNat z.toNat, by simp; omega, fun h0 => ?_⟩
    have c0 := cell_heap (hc 0 (by omega))
    have hx0 : x.add 0 = x := by simp [Addr.add]
    rw [hx0] at c0
    obtain ⟨hs, cs, e, z, hb, _⟩ := c0
    obtain ⟨b, o, sp⟩ := x
    simp only at hs hb
    subst hs
    refine .inr ⟨b, o, cap, cs.toList, e, z, rfl, hl, heapC_mem.2 (by simpa using hb), ?_⟩
    apply List.ext_getElem?
    intro i
    simp only [bytesV_length, List.length_map, List.length_take, List.getElem?_take]
    by_cases hi : i < min len zs.length
    · rw [if_pos hi]
      have hi' : i < zs.length := by omega
      obtain ⟨_, cs', e', z', hb', hv⟩ := cell_heap (hc i hi')
      have ea : (⟨b, o, none⟩ : Addr).add i = ⟨b, o + i, none⟩ := by by_cases e : i = 0 <;> simp [Addr.add, e]
      rw [ea] at hb' hv
      simp only at hb' hv
      rw [hb] at hb'
      cases hb'
      rw [List.getElem?_drop, Array.getElem?_toList, hv]
      have hwf := hw _ (List.getElem_mem hi')
      have hb2 : 0 ≤ zs[i] ∧ zs[i] ≤ 255 := by simpa [Lit.wf, IntKind.min, IntKind.max, IntKind.signed, IntKind.bits] using hwf
      simp only [bytesV, List.map_map, List.getElem?_map, List.getElem?_take, if_pos (show i < len by omega), List.getElem?_eq_getElem hi', Option.map_some, Function.comp]
      have e3 : (UInt8.ofNat zs[i].toNat).toNat = zs[i].toNat := by
        rw [UInt8.toNat_ofNat']; omega
      rw [e3, List.getD_eq_getElem?_getD, List.getElem?_eq_getElem hi']
      simp only [Option.getD_some]
      congr 2
      omega
    · rw [if_neg hi]
      rw [List.getElem?_eq_none]
      simp; omega

/-- The settled world, the two variables holding what their initialisers lay. -/
noncomputable def laidWorld (os : Os) : World :=
  let w0 := World.holding Tryd.prog os ⟨#[], #[], []⟩
  let put (h : Array Obj) (g : Nat) (cs : Array Value) : Array Obj := h.modify g fun
    | .cells _ t frozen => .cells cs t frozen
    | o => o
  let h1 := put w0.heap 1 (Lib.firstTab.map fun z => Value.int .u8 z).toArray
  let h2 := put h1 2 ((List.range 16).flatMap fun i => [Value.int .u8 (Lib.accLo i), Value.int .u8 (Lib.accHi i)]).toArray
  { w0 with heap := h2 }
theorem laid_met (os : Os) (args : Array Value) : laidMet Tryd.prog [("unicode/utf8.acceptRanges", Rows.laid_unicode_utf8_acceptRanges), ("unicode/utf8.first", Rows.laid_unicode_utf8_first)] ((laidWorld os).forCall (fun _ _ => 0) ⟨#[], args, []⟩).memory :=
  (LaidIn.of_run [2, 1] 8 (by kernel_rfl) (by kernel_rfl) (by kernel_rfl) (by kernel_rfl)).met
end Go.Proofs.YtdobndclhbkooaaDoor
