/- oper.Same, plainly.
   Conditions: the rows' bytes are bytes. -/
import Derived.Test.YtekinhnempbioaaDoorPZx20
import Derived.Test.YtekinhnempbioaaDoorPureOperSame
set_option linter.unusedSimpArgs false
set_option linter.unusedVariables false
namespace Go.Proofs.YtekinhnempbioaaDoor.PZ
open Go.RowKit Go.Proofs.YtekinhnempbioaaDoorW.PrintWords Go.Proofs.YtekinhnempbioaaDoorW.PrintLast
/-- A row of bytes. -/
def Bytes (l : List Int) : Prop := ∀ c ∈ l, 0 ≤ c ∧ c ≤ 255
theorem bytes_of {l : List Int} (hw : ∀ b_ ∈ l, (Lit.int .u8 b_).wf = true) : Bytes l := fun c hc => wf_u8 (hw c hc)
theorem bytes_inj {a b : List Int} (ha : Bytes a) (hb : Bytes b) (h : Lib.bytesOf a = Lib.bytesOf b) : a = b := by
  induction a generalizing b with
  | nil => cases b with
    | nil => rfl
    | cons y b => cases h
  | cons x a ih =>
    cases b with
    | nil => cases h
    | cons y b =>
      have h1 : UInt8.ofNat x.toNat = UInt8.ofNat y.toNat ∧ Lib.bytesOf a = Lib.bytesOf b := by
        unfold Lib.bytesOf at h ⊢
        simpa using h
      have hx := ha x List.mem_cons_self
      have hy := hb y List.mem_cons_self
      have h2 := congrArg UInt8.toNat h1.1
      simp at h2
      have : x = y := by omega
      rw [this, ih (fun c hc => ha c (List.mem_cons_of_mem _ hc)) (fun c hc => hb c (List.mem_cons_of_mem _ hc)) h1.2]
theorem equal_f {a b : List Int} (ha : Bytes a) (hb : Bytes b) : bytes_Equal.f a b = some (decide (a = b)) := by
  unfold bytes_Equal.f
  rw [Lib.strOfNums_toList, Lib.strOfNums_toList]
  congr 1
  rw [Bool.eq_iff_iff, beq_iff_eq, decide_eq_true_eq]
  exact ⟨bytes_inj ha hb, fun h => by rw [h]⟩
theorem operSame_f {i f i' f' : List Int} (w c w' c' : Int) (hi : Bytes i) (hf : Bytes f) (hi' : Bytes i') (hf' : Bytes f') : oper_Same.f i f w c i' f' w' c' = some (sameO i f w c i' f' w' c') := by
  unfold oper_Same.f sameO
  rw [equal_f hi hi', equal_f hf hf']
  simp only [Option.bind_some]
  by_cases h1 : i = i'
  · rw [if_pos (decide_eq_true h1)]
    by_cases h2 : f = f'
    · rw [if_pos (decide_eq_true h2)]
      by_cases h3 : w = w'
      · rw [if_pos h3]
        congr 1
        rw [Bool.eq_iff_iff]
        simp [h1, h2, h3]
      · rw [if_neg h3, decide_eq_false (fun z => h3 z.2.2.1)]
    · rw [if_neg (by simpa using h2), decide_eq_false (fun z => h2 z.2.1)]
  · rw [if_neg (by simpa using h1), decide_eq_false (fun z => h1 z.1)]
end Go.Proofs.YtekinhnempbioaaDoor.PZ
