/- dec.Read: the number that it answers, its ways put together.
   Conditions: the text has at most 2^47 - 4096 bytes. -/
import Derived.Test.YtahkamggdbibiaaDoorDecReadD
namespace Go.Proofs.YtahkamggdbibiaaDoor.PZ
open Go.RowKit Go.Proofs.YtahkamggdbibiaaDoorW.PrintWords Go.Proofs.YtahkamggdbibiaaDoorW.PrintLast

theorem hasB_lt {s : ByteArray} {a : Nat} {c : Int} (h : hasB s a c = true) : a < s.size := by
  unfold hasB at h; simp at h; exact h.1
theorem numD_len (s : ByteArray) (a : Nat) (h : a ≤ s.size) : (numD s a).length ≤ numAt s a - a := by
  unfold numD numAt
  split
  · simp
  · rw [List.length_map]
    show (bytesOf _).length ≤ _
    rw [bytesOf_length, bytes_size _ _ _ (show figTo s a 1000 ≤ s.size from figEnd_le s a 1000 _ a h)]
    exact Nat.le_refl _
theorem numD_none (s : ByteArray) (a : Nat) (h : a ≤ s.size) (hb : numB s a = false) : numD s a = [] := by
  unfold numB at hb
  simp only [Bool.or_eq_false_iff, decide_eq_false_iff_not] at hb
  unfold numD
  rw [if_neg (by simp [hb.1])]
  have h1 : (bytesAt s a (figTo s a 1000)).length = 0 := by
    show (bytesOf _).length = _
    rw [bytesOf_length, bytes_size _ _ _ (show figTo s a 1000 ≤ s.size from figEnd_le s a 1000 _ a h)]
    have := hb.2
    unfold figTo at this
    omega
  rw [List.eq_nil_of_length_eq_zero h1]
  rfl
def rdHb (s : ByteArray) : Bool := hasB s (rdAt s) 101
def rdP2 (s : ByteArray) : Nat := if rdHb s then rdAt s + 1 else rdAt s
theorem rdP2_le (s : ByteArray) : rdP2 s ≤ s.size := by
  unfold rdP2
  split
  · rename_i z; exact hasB_lt z
  · exact rdAt_le s
theorem readC (w : World) (s : ByteArray) (hs : s.size ≤ 140737488351232) :
    ReadC w (w.alloc (.cells #[.bool false, .slice none 0 0, .int .i64 0] 24)) s (rdNeg s) (numB s (rdFrom s)) (rdHb s) (powOk (rdD s) s (rdP2 s)) (rdFrom s) (numAt s (rdFrom s)) (rdAt s) (rdP2 s) (powAA (rdD s) s (rdP2 s)) (rdD s) (powEE (rdD s) s (rdP2 s)) := by
  have hg : (w.alloc (.cells #[.bool false, .slice none 0 0, .int .i64 0] 24)).heap.size = w.heap.size + 1 := by simp
  refine ⟨hg, rfl, RSt.start _ s, ?_, ?_, ?_, ?_⟩
  · intro W h
    have hc := reader_has (fun _ => True) _ W false [] 0 s 0 _ 45 h (Nat.zero_le _) hs
    rw [hg] at hc
    refine hc.mono ?_
    rintro en W' ⟨rfl, h2⟩
    refine ⟨rfl, ?_⟩
    have e : (if hasB s 0 45 then 0 + 1 else 0) = rdFrom s := by unfold rdFrom rdNeg; split <;> rfl
    rw [e] at h2
    exact h2
  · intro W h
    have hc := reader_number _ W (rdNeg s) 0 s (rdFrom s) h (rdFrom_le s) hs
    rw [hg] at hc
    exact hc
  · intro W A c h
    have hc := reader_has (fun _ => True) _ W (rdNeg s) (rdD s) 0 s (rdAt s) _ 101 h (rdAt_le s) hs
    rw [hg] at hc
    exact hc
  · intro W A c h
    have hc := reader_power (fun _ => True) _ W (rdNeg s) (rdD s) s (rdP2 s) A c h (rdP2_le s) hs
    rw [hg] at hc
    exact hc
def ReadAll (w : World) (s : ByteArray) (e : Ending) (w' : World) : Prop := if rdGood s = true then ReadFine w (rdNeg s) (rdD s) (powEE (rdD s) s (rdAt2 s)) e w' else ReadErr w (rdAt3 s) e w'
theorem ReadAll.err {w : World} {s : ByteArray} {q : Nat} (h : rdGood s = false) (hq : rdAt3 s = q) {e : Ending} {w' : World} (k : ReadErr w q e w') : ReadAll w s e w' := by
  subst hq
  unfold ReadAll
  rw [if_neg (by simp [h])]
  exact k
theorem read_mid (w : World) (s : ByteArray) (n0 po : Bool) (D : List Int) (E : Int) (p3 : Nat) (h1 : rdGood s = (po && decide (¬ p3 < s.size))) (h2 : rdAt3 s = p3) (h3 : rdNeg s = n0) (h4 : rdD s = D) (h5 : powEE (rdD s) s (rdAt2 s) = E)
    {e : Ending} {w' : World} (k : ReadEnd w n0 po D E s p3 e w') : ReadAll w s e w' := by
  subst h2 h3 h4 h5
  unfold ReadEnd at k
  unfold ReadAll
  rw [h1]
  by_cases h : po = true ∧ ¬ rdAt3 s < s.size
  · rw [if_pos h] at k
    rw [if_pos (by simpa using h)]
    exact k
  · rw [if_neg h] at k
    rw [if_neg (by simpa using h)]
    exact k
theorem read_main (w : World) (s : ByteArray) (hs : s.size ≤ 140737488351232) : Calls Tryd.prog 11 #[.string s] w (ReadAll w s) := by
  have C := readC w s hs
  have hf := rdFrom_le s
  have hq := numAt_le s _ hf
  have hl := numD_len s _ hf
  by_cases hb : numB s (rdFrom s) = true
  · by_cases hD : (rdD s).length = 0
    · have hfull : rdFull s = false := by unfold rdFull; simp [hD]
      have hat : rdAt s = numAt s (rdFrom s) := by unfold rdAt; rw [if_neg (by simp [hfull])]
      have hok : rdOk s = true := by unfold rdOk; simp [hb, hD]
      by_cases he : rdHb s = true
      · have hE : rdE s = true := by unfold rdE; rw [hok]; exact he
        have h2 : rdAt2 s = rdP2 s := by unfold rdAt2 rdP2; rw [hE, he]
        refine (read_e_nil w _ s _ _ _ _ _ _ _ _ _ _ _ C hD hb hat he).mono ?_
        intro e w' k
        refine read_mid w s _ _ _ _ _ ?_ ?_ rfl rfl (by rw [h2]) k
        · unfold rdGood rdAll rdAt3; rw [hE, h2]; simp
        · unfold rdAt3; rw [hE, h2]; simp
      · have he' : rdHb s = false := by simpa using he
        have hE : rdE s = false := by unfold rdE; rw [hok]; exact he'
        refine (read_noe_nil w _ s _ _ _ _ _ _ _ _ _ _ _ C hD hb hat he').mono ?_
        intro e w' k
        refine ReadAll.err (by unfold rdGood rdAll; rw [hE]; rfl) ?_ k
        unfold rdAt3 rdAt2 rdP2; rw [hE, he']; rfl
    · obtain ⟨n, hn⟩ : ∃ n, (rdD s).length = n + 1 := ⟨(rdD s).length - 1, by omega⟩
      have hn2 : ((n : Nat) : Int) = ((rdD s).length : Int) - 1 := by omega
      have hbig : n ≤ 140737488351232 := by
        have : (rdD s).length ≤ numAt s (rdFrom s) - rdFrom s := hl
        omega
      by_cases hz : rd (rdD s) (n : Int) = 0
      · have hok : rdOk s = false := by
          unfold rdOk
          rw [← hn2, hz]
          simp [hD]
        have hE : rdE s = false := by unfold rdE; rw [hok]; rfl
        have hgood : rdGood s = false := by unfold rdGood rdAll; rw [hE]; rfl
        have h3 : rdAt3 s = rdAt s := by unfold rdAt3 rdAt2; rw [hE]; rfl
        by_cases hf9 : n = 999
        · have hfull : rdFull s = true := by unfold rdFull; subst hf9; rw [hn]; simpa using hz
          refine (read_bad_full w _ s _ _ _ _ _ _ _ _ _ _ _ C n hbig hn _ rfl hz hb hf9 ?_ ?_).mono (fun e w' k => ReadAll.err hgood ?_ k)
          · have : (rdD s).length ≤ numAt s (rdFrom s) - rdFrom s := hl
            omega
          · omega
          · rw [h3]; unfold rdAt; rw [hfull]; rfl
        · have hfull : rdFull s = false := by unfold rdFull; rw [hn]; simp; omega
          refine (read_bad w _ s _ _ _ _ _ _ _ _ _ _ _ C n hbig hn _ rfl hz hb hf9).mono (fun e w' k => ReadAll.err hgood ?_ k)
          rw [h3]; unfold rdAt; rw [hfull]; rfl
      · have hfull : rdFull s = false := by
          unfold rdFull
          by_cases h9 : (rdD s).length = 1000
          · have : n = 999 := by omega
            subst this
            simpa [h9] using hz
          · simp [h9]
        have hat : rdAt s = numAt s (rdFrom s) := by unfold rdAt; rw [if_neg (by simp [hfull])]
        have hok : rdOk s = true := by
          unfold rdOk
          rw [← hn2, hb]
          simp [hz]
        by_cases he : rdHb s = true
        · have hE : rdE s = true := by unfold rdE; rw [hok]; exact he
          have h2 : rdAt2 s = rdP2 s := by unfold rdAt2 rdP2; rw [hE, he]
          refine (read_e_some w _ s _ _ _ _ _ _ _ _ _ _ _ C n hbig hn _ rfl hz hb hat he).mono ?_
          intro e w' k
          refine read_mid w s _ _ _ _ _ ?_ ?_ rfl rfl (by rw [h2]) k
          · unfold rdGood rdAll rdAt3; rw [hE, h2]; simp
          · unfold rdAt3; rw [hE, h2]; simp
        · have he' : rdHb s = false := by simpa using he
          have hE : rdE s = false := by unfold rdE; rw [hok]; exact he'
          refine (read_noe_some w _ s _ _ _ _ _ _ _ _ _ _ _ C n hbig hn _ rfl hz hb hat he').mono ?_
          intro e w' k
          refine ReadAll.err (by unfold rdGood rdAll; rw [hE]; rfl) ?_ k
          unfold rdAt3 rdAt2 rdP2; rw [hE, he']; rfl
  · have hb' : numB s (rdFrom s) = false := by simpa using hb
    have hD : rdD s = [] := numD_none s _ hf hb'
    have hok : rdOk s = false := by unfold rdOk; rw [hb']; rfl
    have hE : rdE s = false := by unfold rdE; rw [hok]; rfl
    have hfull : rdFull s = false := by unfold rdFull; rw [hD]; rfl
    refine (read_none w _ s _ _ _ _ _ _ _ _ _ _ _ C hD hb').mono (fun e w' k => ReadAll.err (by unfold rdGood rdAll; rw [hE]; rfl) ?_ k)
    unfold rdAt3 rdAt2; rw [hE]
    show rdAt s = _
    unfold rdAt; rw [hfull]; rfl
theorem dec_Read.calls (a0 : ByteArray) (r1 : Bool) (r2 : List Int) (r3 : Int) (r4 : Int) (r5 : Int) (w : World) (h : dec_Read.f a0 = some (r1, r2, r3, r4, r5)) :
    Calls Tryd.prog 11 #[.string a0] w fun e w' => ∃ v1_ : Value, e = .returned (.tuple #[.agg #[.bool r1, v1_, .int .i64 r3], .int .i64 r4, .int .i64 r5]) ∧ Kd.R (Kd.int .u8) 5 w' w.heap.size (fun _ => True) v1_ r2 ∧ Below w.heap.size w w' := by
  unfold dec_Read.f at h
  by_cases hs : a0.size ≤ 140737488351232
  · rw [if_pos hs] at h
    have h1 := Option.some.inj h
    refine (read_main w a0 hs).mono ?_
    intro e w' k
    unfold ReadAll at k
    by_cases hg : rdGood a0 = true
    · rw [if_pos hg] at k h1
      injection h1 with e1 h1
      injection h1 with e2 h1
      injection h1 with e3 h1
      injection h1 with e4 e5
      subst e1 e2 e3 e4 e5
      exact k
    · rw [if_neg hg] at k h1
      injection h1 with e1 h1
      injection h1 with e2 h1
      injection h1 with e3 h1
      injection h1 with e4 e5
      subst e1 e2 e3 e4 e5
      exact ⟨_, k.1, Kd.R_nil _ _ _ _ _, k.2⟩
  · rw [if_neg hs] at h
    cases h
end Go.Proofs.YtahkamggdbibiaaDoor.PZ
