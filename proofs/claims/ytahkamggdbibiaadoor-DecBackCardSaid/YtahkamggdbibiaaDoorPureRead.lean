/- dec.Read and dec.Text, plainly: a right number's text is read as it; what is read has that text.
   Conditions: none. -/
import Derived.Test.YtahkamggdbibiaaDoorText
set_option linter.unusedSimpArgs false
set_option linter.unusedVariables false
namespace Go.Proofs.YtahkamggdbibiaaDoor.PZ
open Go.RowKit Go.Proofs.YtahkamggdbibiaaDoorW.PrintWords Go.Proofs.YtahkamggdbibiaaDoorW.PrintLast
theorem figs_back {l : List Int} (h : Figs l) : (l.map chr).map figOf = l := by
  rw [List.map_map]
  conv => rhs; rw [← List.map_id l]
  apply List.map_congr_left
  intro d hd
  have := h d hd
  simp only [Function.comp_apply, chr, figOf, id]
  omega
theorem figs_back' {l : List Int} : (l.map chr).map (· - 48) = l := by
  rw [List.map_map]
  conv => rhs; rw [← List.map_id l]
  apply List.map_congr_left
  intro d _
  simp only [Function.comp_apply, chr, id]
  omega
theorem figs_there {f : List Int} (h : ∀ c ∈ f, 48 ≤ c ∧ c ≤ 57) : Figs (f.map figOf) ∧ (f.map figOf).map chr = f ∧ f.map (· - 48) = f.map figOf := by
  refine ⟨?_, ?_, ?_⟩
  · intro x hx
    obtain ⟨y, hy, rfl⟩ := List.mem_map.1 hx
    have := h y hy
    unfold figOf
    omega
  · rw [List.map_map]
    conv => rhs; rw [← List.map_id f]
    apply List.map_congr_left
    intro y hy
    have := h y hy
    simp only [Function.comp_apply, chr, figOf, id]
    omega
  · apply List.map_congr_left
    intro y hy
    have := h y hy
    unfold figOf
    omega
theorem rd_head {l : List Int} (h : 0 < l.length) : l.head? = some (rd l 0) := by
  cases l with
  | nil => simp at h
  | cons d l => rfl
theorem pw_nought : pw 0 = [48] := by unfold pw; rw [if_neg (by decide), show (0 : Int).toNat = 0 from rfl, digsN_small (by decide)]; rfl
theorem pw_length {e : Int} (he : -1000 ≤ e ∧ e ≤ 1000) : (pw e).length ≤ 5 := by
  unfold pw
  split
  · have := digsN_length 3 e.natAbs (by omega)
    simp; omega
  · have := digsN_length 3 e.toNat (by omega)
    simp; omega
theorem figT_length (l : List Int) : (figT l).length ≤ l.length + 1 := by
  unfold figT; split <;> simp
theorem txt_length (g : Bool) {l : List Int} {e : Int} (h : RDec l e) : (txt g l e).length ≤ 1008 := by
  have h1 := pw_length h.exp
  have h2 := figT_length l
  have h3 := h.len
  unfold txt
  cases g <;> simp <;> omega
/-- What the power's reading answers at the text of one. -/
theorem pow_txt {s : ByteArray} {p : Nat} {l : List Int} {e : Int} (h : (bytesOf s).drop p = pw e) (hp : p ≤ s.size) (he : -1000 ≤ e ∧ e ≤ 1000) (hl : 0 < l.length) : powOk l s p = true ∧ powEE l s p = e ∧ powAA l s p = p + (pw e).length := by
  have hl0 : ¬ l.length = 0 := by omega
  by_cases h0 : e = 0
  · subst h0
    rw [pw_nought] at h ⊢
    have h48 : hasB s p 48 = true := by rw [hasB_eq, h]; decide
    have hI : powIs l s p = true := by unfold powIs; rw [h48]; simp
    unfold powOk powEE powAA
    rw [if_pos hI, if_pos hI, if_pos hI, h48]
    exact ⟨rfl, rfl, by rw [if_pos rfl]; rfl⟩
  · have hu : 0 < e.natAbs := by omega
    have hfirst := digsN_first e.natAbs hu
    have hfig := digsN_figs e.natAbs
    have hlen := digsN_length 3 e.natAbs (by omega)
    have hpos := digsN_pos e.natAbs
    have hhead : ((digsN e.natAbs).map chr).head? = some (chr (rd (digsN e.natAbs) 0)) := by rw [List.head?_map, rd_head hpos]; rfl
    have hc0 : chr (rd (digsN e.natAbs) 0) ≠ 48 ∧ chr (rd (digsN e.natAbs) 0) ≠ 45 := by unfold chr; omega
    have hrun : run 4 ((digsN e.natAbs).map chr) = (digsN e.natAbs).map chr := by
      have := run_figs hfig hfirst 4 hlen [] (fun c hc => by cases hc)
      simpa using this
    have hloop : powLoop ((digsN e.natAbs).map chr) 0 = ((e.natAbs : Int), false) := by
      have hq : ∀ c ∈ (digsN e.natAbs).map chr, 48 ≤ c ∧ c ≤ 57 := by
        intro c hc
        obtain ⟨d, hd, rfl⟩ := List.mem_map.1 hc
        have := hfig d hd
        unfold chr; omega
      have := powLoop_num _ hq 0 (by omega) (by rw [figs_back', digsN_num]; omega)
      rw [this, figs_back', digsN_num]
      simp
    by_cases hn : e < 0
    · have hpw : pw e = 45 :: (digsN e.natAbs).map chr := by unfold pw; rw [if_pos hn]
      rw [hpw] at h ⊢
      have h48 : hasB s p 48 = false := by rw [hasB_eq, h]; simp
      have h45 : hasB s p 45 = true := by rw [hasB_eq, h]; simp
      have hI : powIs l s p = false := by unfold powIs; rw [h48]; simpa using hl0
      have hp1 : p + 1 ≤ s.size := by
        have := congrArg List.length h
        rw [List.length_drop, bytesOf_length, List.length_cons] at this
        omega
      have hd1 : (bytesOf s).drop (p + 1) = (digsN e.natAbs).map chr := by rw [← List.drop_drop, h]; rfl
      have hfr : powFr s p = p + 1 := by unfold powFr; rw [h45]; rfl
      have hQ : powQ s p = ((e.natAbs : Int), false) := by unfold powQ; rw [hfr, bytesAt_run s _ 4 (by omega) hp1, hd1, hrun, hloop]
      have hE : powE s p = e := by unfold powE; rw [h45, hQ, if_pos rfl]; show -(e.natAbs : Int) = e; omega
      have hA : powAt s p = p + 1 + (digsN e.natAbs).length := by
        unfold powAt
        rw [hQ, hfr, figTo_run s _ 4 (by omega) hp1, hd1, hrun, List.length_map]
        rfl
      unfold powOk powEE powAA
      rw [hI, hE, hA]
      simp only [Bool.false_eq_true, if_false, List.length_cons, List.length_map]
      exact ⟨by simpa using h0, trivial, by omega⟩
    · have hpw : pw e = (digsN e.natAbs).map chr := by
        unfold pw
        rw [if_neg hn]
        have : e.toNat = e.natAbs := by omega
        rw [this]
      rw [hpw] at h ⊢
      have h48 : hasB s p 48 = false := by rw [hasB_eq, h, hhead]; simpa using hc0.1
      have h45 : hasB s p 45 = false := by rw [hasB_eq, h, hhead]; simpa using hc0.2
      have hI : powIs l s p = false := by unfold powIs; rw [h48]; simpa using hl0
      have hfr : powFr s p = p := by unfold powFr; rw [h45]; rfl
      have hQ : powQ s p = ((e.natAbs : Int), false) := by unfold powQ; rw [hfr, bytesAt_run s _ 4 (by omega) hp, h, hrun, hloop]
      have hE : powE s p = e := by unfold powE; rw [h45, hQ]; show (e.natAbs : Int) = e; omega
      have hA : powAt s p = p + (digsN e.natAbs).length := by
        unfold powAt
        rw [hQ, hfr, figTo_run s _ 4 (by omega) hp, h, hrun, List.length_map]
        rfl
      unfold powOk powEE powAA
      rw [hI, hE, hA]
      simp only [Bool.false_eq_true, if_false, List.length_map]
      exact ⟨by simpa using h0, trivial, trivial⟩
/-- A right number's text is read as it. -/
theorem read_txt {s : ByteArray} {g : Bool} {l : List Int} {e : Int} (h : RDec l e) (hs : bytesOf s = txt g l e) : dec_Read.f s = some (g, l, e, 0, 0) := by
  have hsz : s.size = (txt g l e).length := by rw [← hs, bytesOf_length]
  have hb := txt_length g h
  have hneg : rdNeg s = g := by
    unfold rdNeg
    rw [hasB_eq, hs]
    cases g with
    | true => rfl
    | false =>
      rw [decide_eq_false_iff_not]
      unfold txt figT
      by_cases h0 : l.length = 0
      · simp [h0]
      · have := h.first (by omega)
        simp only [h0, if_false, Bool.false_eq_true, List.nil_append, List.drop_zero]
        rw [List.head?_append, List.head?_map, rd_head (by omega)]
        simp [chr]; omega
  have hfrom : rdFrom s = if g then 1 else 0 := by unfold rdFrom; rw [hneg]
  have hfl : rdFrom s ≤ s.size := rdFrom_le s
  have hY : (bytesOf s).drop (rdFrom s) = figT l ++ 101 :: pw e := by rw [hs, hfrom]; unfold txt; cases g <;> rfl
  have hlenY : s.size = rdFrom s + ((figT l).length + 1 + (pw e).length) := by
    rw [hsz, hfrom]; unfold txt
    cases g <;> simp <;> omega
  generalize hfr : rdFrom s = fr at *
  have hdrop : ∀ k, (bytesOf s).drop (fr + k) = (figT l ++ 101 :: pw e).drop k := fun k => by rw [← List.drop_drop, hY]
  unfold dec_Read.f
  rw [if_pos (by omega)]
  by_cases h0 : l.length = 0
  · have hl : l = [] := List.eq_nil_of_length_eq_zero h0
    have he := h.nought h0
    subst hl he
    have hT : figT [] ++ 101 :: pw 0 = [48, 101, 48] := by rw [pw_nought]; rfl
    rw [hT] at hdrop
    have a0 : hasB s fr 48 = true := by rw [hasB_eq]; have := hdrop 0; rw [Nat.add_zero] at this; rw [this]; rfl
    have a1 : hasB s (fr + 1) 101 = true := by rw [hasB_eq, hdrop 1]; rfl
    have a2 : hasB s (fr + 2) 48 = true := by rw [hasB_eq, hdrop 2]; rfl
    have d0 : rdD s = [] := by unfold rdD numD; rw [hfr, if_pos a0]
    have d1 : rdFull s = false := by unfold rdFull; rw [d0]; rfl
    have d2 : rdAt s = fr + 1 := by unfold rdAt numAt; rw [d1, hfr, if_pos a0]; rfl
    have d3 : rdOk s = true := by unfold rdOk numB; rw [hfr, a0, d0]; rfl
    have d4 : rdE s = true := by unfold rdE; rw [d3, d2, a1]; rfl
    have d5 : rdAt2 s = fr + 2 := by unfold rdAt2; rw [d4, d2]; rfl
    have d6 : powIs [] s (fr + 2) = true := rfl
    have d7 : rdAll s = true := by unfold rdAll powOk; rw [d4, d0, d5, if_pos d6, a2]; rfl
    have d8 : rdAt3 s = fr + 3 := by unfold rdAt3 powAA; rw [d4, d0, d5, if_pos rfl, if_pos d6, if_pos a2]
    have d9 : rdGood s = true := by
      unfold rdGood; rw [d7, d8]
      have e1 : (figT []).length = 1 := rfl
      have e2 : (pw 0).length = 1 := by rw [pw_nought]; rfl
      rw [e1, e2] at hlenY
      simp; omega
    rw [if_pos d9, hneg, d0]
    unfold powEE
    rw [d5, if_pos d6]
  · have hl0 : 0 < l.length := by omega
    have hfirst := h.first hl0
    have hF : figT l = l.map chr := by unfold figT; rw [if_neg h0]
    have hFl : (figT l).length = l.length := by rw [hF, List.length_map]
    have hrun : run 1000 ((bytesOf s).drop fr) = l.map chr := by
      rw [hY, hF]
      exact run_figs h.figs hfirst 1000 h.len _ (fun c hc => by cases hc; decide)
    have a0 : hasB s fr 48 = false := by
      rw [hasB_eq, hY, hF, List.head?_append, List.head?_map, rd_head hl0]
      simp [chr]; omega
    have t0 : figTo s fr 1000 = fr + l.length := by rw [figTo_run s fr 1000 (by omega) hfl, hrun, List.length_map]
    have d0 : rdD s = l := by
      unfold rdD numD
      rw [hfr, a0, if_neg (by decide), bytesAt_run s fr 1000 (by omega) hfl, hrun, figs_back h.figs]
    have hlast := h.last hl0
    have d1 : rdFull s = false := by
      unfold rdFull; rw [d0]
      by_cases hk : l.length = 1000
      · have e1 : (l.length : Int) - 1 = 999 := by omega
        rw [e1] at hlast
        have : ¬ rd l 999 = 0 := by omega
        simp [this]
      · simp [hk]
    have d2 : rdAt s = fr + l.length := by unfold rdAt numAt; rw [d1, hfr, a0, t0]; rfl
    have d3 : rdOk s = true := by
      unfold rdOk numB; rw [hfr, a0, d0, t0]
      have : ¬ rd l ((l.length : Int) - 1) = 0 := by omega
      simp [this]; omega
    have r1 : (bytesOf s).drop (fr + l.length) = 101 :: pw e := by rw [hdrop, ← hFl, List.drop_left]
    have a1 : hasB s (fr + l.length) 101 = true := by rw [hasB_eq, r1]; rfl
    have d4 : rdE s = true := by unfold rdE; rw [d3, d2, a1]; rfl
    have d5 : rdAt2 s = fr + l.length + 1 := by unfold rdAt2; rw [d4, d2]; rfl
    have r2 : (bytesOf s).drop (fr + l.length + 1) = pw e := by rw [← List.drop_drop, r1]; rfl
    obtain ⟨p1, p2, p3⟩ := pow_txt (l := l) r2 (by omega) h.exp hl0
    have d7 : rdAll s = true := by unfold rdAll; rw [d4, d0, d5, p1]; rfl
    have d8 : rdAt3 s = fr + l.length + 1 + (pw e).length := by unfold rdAt3; rw [d4, d0, d5, if_pos rfl, p3]
    have d9 : rdGood s = true := by
      unfold rdGood; rw [d7, d8]
      simp; omega
    rw [if_pos d9, hneg, d0, d5, p2]
theorem head_cons {X : List Int} {p : Nat} {c : Int} (h : (X.drop p).head? = some c) : X.drop p = c :: X.drop (p + 1) := by
  cases hx : X.drop p with
  | nil => rw [hx] at h; cases h
  | cons d Y =>
    rw [hx] at h
    have hd : d = c := by simpa using h
    have : X.drop (p + 1) = Y := by rw [← List.drop_drop, hx]; rfl
    rw [hd, this]
/-- What is read has that text. -/
theorem good_txt {s : ByteArray} (h : rdGood s = true) : bytesOf s = txt (rdNeg s) (rdD s) (powEE (rdD s) s (rdAt2 s)) ∧ RDec (rdD s) (powEE (rdD s) s (rdAt2 s)) := by
  have hl : (bytesOf s).length = s.size := bytesOf_length s
  unfold rdGood at h
  rw [Bool.and_eq_true] at h
  obtain ⟨h1, hend⟩ := h
  have hend : s.size ≤ rdAt3 s := by simpa using hend
  unfold rdAll at h1
  rw [Bool.and_eq_true] at h1
  obtain ⟨hE, hpow⟩ := h1
  have hat3 : rdAt3 s = powAA (rdD s) s (rdAt2 s) := by unfold rdAt3; rw [if_pos hE]
  have hat2 : rdAt2 s = rdAt s + 1 := by unfold rdAt2; rw [if_pos hE]
  unfold rdE at hE
  rw [Bool.and_eq_true] at hE
  obtain ⟨hok, h101⟩ := hE
  unfold rdOk at hok
  rw [Bool.and_eq_true] at hok
  obtain ⟨hnB, hlast⟩ := hok
  have hfl : rdFrom s ≤ s.size := rdFrom_le s
  have hm : bytesOf s = (if rdNeg s then [45] else []) ++ (bytesOf s).drop (rdFrom s) := by
    unfold rdFrom
    cases hn : rdNeg s with
    | true =>
      unfold rdNeg at hn
      rw [hasB_eq, decide_eq_true_eq] at hn
      have := head_cons hn
      simpa using this
    | false => simp
  rw [hasB_eq, decide_eq_true_eq] at h101
  have q1 := head_cons h101
  by_cases h48 : hasB s (rdFrom s) 48 = true
  · have d0 : rdD s = [] := by unfold rdD numD; rw [if_pos h48]
    have d1 : rdFull s = false := by unfold rdFull; rw [d0]; rfl
    have d2 : rdAt s = rdFrom s + 1 := by unfold rdAt numAt; rw [d1, if_pos h48]; rfl
    rw [hasB_eq, decide_eq_true_eq] at h48
    have q0 := head_cons h48
    rw [d2] at q1 hat2
    rw [hat2, d0] at hpow hat3
    rw [hat2, d0]
    have d6 : powIs [] s (rdFrom s + 1 + 1) = true := rfl
    unfold powOk at hpow
    rw [if_pos d6] at hpow
    unfold powAA at hat3
    rw [if_pos d6, if_pos hpow] at hat3
    rw [hasB_eq, decide_eq_true_eq] at hpow
    have q2 := head_cons hpow
    have q3 : (bytesOf s).drop (rdFrom s + 1 + 1 + 1) = [] := List.drop_of_length_le (by omega)
    have e0 : powEE [] s (rdFrom s + 1 + 1) = 0 := by unfold powEE; rw [if_pos d6]
    rw [e0]
    refine ⟨?_, RDec.nil⟩
    unfold txt
    rw [hm, q0, q1, q2, q3, pw_nought]
    cases rdNeg s <;> rfl
  · have h48' : hasB s (rdFrom s) 48 = false := by simpa using h48
    obtain ⟨Z, hZ⟩ := run_prefix 1000 ((bytesOf s).drop (rdFrom s))
    have hdig := run_digits 1000 ((bytesOf s).drop (rdFrom s))
    have hle := run_le 1000 ((bytesOf s).drop (rdFrom s))
    have hhd := run_head 1000 ((bytesOf s).drop (rdFrom s))
    have hto := figTo_run s (rdFrom s) 1000 (by omega) hfl
    have hat := bytesAt_run s (rdFrom s) 1000 (by omega) hfl
    generalize run 1000 ((bytesOf s).drop (rdFrom s)) = f at *
    obtain ⟨fF, fc, fs⟩ := figs_there hdig
    have d0 : rdD s = f.map figOf := by unfold rdD numD; rw [if_neg h48, hat]
    have hfpos : 0 < f.length := by
      unfold numB at hnB
      rw [h48', hto] at hnB
      simp at hnB
      omega
    have hDl : (rdD s).length = f.length := by rw [d0, List.length_map]
    have hlast' : rd (rdD s) ((f.length : Int) - 1) ≠ 0 := by
      rw [hDl] at hlast
      simp only [Bool.or_eq_true, decide_eq_true_eq] at hlast
      rcases hlast with h | h
      · omega
      · exact h
    have d1 : rdFull s = false := by
      unfold rdFull
      by_cases hk : (rdD s).length = 1000
      · have e1 : (f.length : Int) - 1 = 999 := by omega
        rw [e1] at hlast'
        simp [hlast']
      · simp [hk]
    have d2 : rdAt s = rdFrom s + f.length := by unfold rdAt numAt; rw [d1, h48', hto]; rfl
    have hDF : Figs (rdD s) := by rw [d0]; exact fF
    have hfirst : 0 < rd (rdD s) 0 := by
      have h1 := hhd hfpos
      have h2 : f.head? = some (rd f 0) := rd_head hfpos
      have h3 : (rdD s).head? = some (rd (rdD s) 0) := rd_head (by omega)
      rw [d0, List.head?_map, h2] at h3
      have h4 : figOf (rd f 0) = rd (rdD s) 0 := by rw [d0]; simpa using h3
      have h5 := hdig (rd f 0) (by have := rd_mem f 0 hfpos; simpa using this)
      rw [h2] at h1
      have h6 : rd f 0 ≠ 48 := by simpa using h1
      rw [← h4]
      unfold figOf
      omega
    have hlast0 : 0 < rd (rdD s) (((rdD s).length : Int) - 1) := by
      have e1 : ((rdD s).length : Int) - 1 = ((f.length - 1 : Nat) : Int) := by omega
      have := rd_figs hDF (f.length - 1)
      have e2 : (f.length : Int) - 1 = ((f.length - 1 : Nat) : Int) := by omega
      rw [e2] at hlast'
      rw [e1]
      omega
    have hZd : (bytesOf s).drop (rdFrom s + f.length) = Z := by rw [← List.drop_drop, hZ, List.drop_left]
    have hfT : figT (rdD s) = f := by unfold figT; rw [if_neg (by omega), d0, fc]
    rw [d2] at q1 hat2
    generalize hp : rdFrom s + f.length + 1 = p at *
    have hRD : ∀ e : Int, -1000 ≤ e → e ≤ 1000 → RDec (rdD s) e := fun e h1 h2 => ⟨hDF, .inr ⟨by omega, by omega, hfirst, hlast0, h1, h2⟩⟩
    have hX : ∀ e : Int, (bytesOf s).drop p = pw e → bytesOf s = txt (rdNeg s) (rdD s) e := by
      intro e he
      unfold txt
      rw [hfT, ← he, ← q1, hZd, ← hZ]
      exact hm
    rw [hat2] at hpow hat3 ⊢
    have hps : p ≤ s.size := by
      have := congrArg List.length q1
      rw [List.length_drop, List.length_cons] at this
      omega
    by_cases hI : powIs (rdD s) s p = true
    · have e0 : powEE (rdD s) s p = 0 := by unfold powEE; rw [if_pos hI]
      unfold powOk at hpow
      rw [if_pos hI] at hpow
      unfold powAA at hat3
      rw [if_pos hI, if_pos hpow] at hat3
      rw [hasB_eq, decide_eq_true_eq] at hpow
      have q2 := head_cons hpow
      have q3 : (bytesOf s).drop (p + 1) = [] := List.drop_of_length_le (by omega)
      rw [e0]
      exact ⟨hX 0 (by rw [q2, q3, pw_nought]), hRD 0 (by omega) (by omega)⟩
    · have e0 : powEE (rdD s) s p = powE s p := by unfold powEE; rw [if_neg hI]
      unfold powOk at hpow
      rw [if_neg hI] at hpow
      have hE0 : powE s p ≠ 0 := by simpa using hpow
      unfold powAA at hat3
      rw [if_neg hI] at hat3
      rw [e0]
      -- the figures of the power
      have hfr : powFr s p ≤ s.size := by
        unfold powFr
        split
        · rename_i z
          exact hasB_lt z
        · exact hps
      have u1 := bytesAt_run s (powFr s p) 4 (by omega) hfr
      have u2 := figTo_run s (powFr s p) 4 (by omega) hfr
      obtain ⟨V, hV⟩ := run_prefix 4 ((bytesOf s).drop (powFr s p))
      have vdig := run_digits 4 ((bytesOf s).drop (powFr s p))
      have vle := run_le 4 ((bytesOf s).drop (powFr s p))
      have vhd := run_head 4 ((bytesOf s).drop (powFr s p))
      generalize run 4 ((bytesOf s).drop (powFr s p)) = q at *
      obtain ⟨qF, qc, qs⟩ := figs_there vdig
      have hVl : (bytesOf s).length - powFr s p = q.length + V.length := by
        have := congrArg List.length hV
        rwa [List.length_drop, List.length_append] at this
      have hQ : powQ s p = powLoop q 0 := by unfold powQ; rw [u1]
      have hn := num_lt qF
      have hbrk : (powQ s p).2 = false := by
        cases hb : (powQ s p).2 with
        | false => rfl
        | true =>
          exfalso
          have hA : powAt s p = powFr s p + 3 := by unfold powAt; rw [hb]; rfl
          rw [hQ] at hb
          have hfar := powLoop_far q vdig 0 (by omega) hb
          rw [qs] at hfar
          have h3 : (q.map figOf).length ≤ 3 := by rw [List.length_map]; omega
          have h4 := T10_le h3
          have h5 : T10 3 = 1000 := by decide
          omega
      have hA : powAt s p = powFr s p + q.length := by unfold powAt; rw [hbrk, u2]; rfl
      rw [hQ] at hbrk
      have hnear := powLoop_near q vdig 0 (by omega) (.inl (by omega)) hbrk
      have hval := powLoop_num q vdig 0 (by omega) hnear
      rw [qs, Int.zero_mul, Int.zero_add] at hval hnear
      have hV0 : V = [] := List.eq_nil_of_length_eq_zero (by omega)
      have hdq : (bytesOf s).drop (powFr s p) = q := by rw [hV, hV0, List.append_nil]
      have hE : powE s p = if hasB s p 45 then -(num (q.map figOf)) else num (q.map figOf) := by unfold powE; rw [hQ, hval]
      have hne : num (q.map figOf) ≠ 0 := by
        intro hz
        rw [hz] at hE
        apply hE0
        rw [hE]
        split <;> rfl
      have hq0 : 0 < q.length := by
        rcases Nat.eq_zero_or_pos q.length with h | h
        · have : q = [] := List.eq_nil_of_length_eq_zero h
          rw [this] at hne
          exact absurd rfl hne
        · exact h
      have hq1 : 0 < rd (q.map figOf) 0 := by
        have h1 := vhd hq0
        have h2 : q.head? = some (rd q 0) := rd_head hq0
        have h3 : (q.map figOf).head? = some (rd (q.map figOf) 0) := rd_head (by rw [List.length_map]; omega)
        rw [List.head?_map, h2] at h3
        have h4 : figOf (rd q 0) = rd (q.map figOf) 0 := by simpa using h3
        have h5 := vdig (rd q 0) (by have := rd_mem q 0 hq0; simpa using this)
        rw [h2] at h1
        have h6 : rd q 0 ≠ 48 := by simpa using h1
        rw [← h4]
        unfold figOf
        omega
      have hdigs : (digsN (num (q.map figOf)).toNat).map chr = q := by
        rw [digsN_of (q.length - 1) (q.map figOf) (by rw [List.length_map]; omega) qF (.inl hq1), qc]
      by_cases h45 : hasB s p 45 = true
      · rw [if_pos h45] at hE
        have hfr1 : powFr s p = p + 1 := by unfold powFr; rw [if_pos h45]
        rw [hasB_eq, decide_eq_true_eq] at h45
        have q2 := head_cons h45
        rw [hE]
        refine ⟨hX _ ?_, hRD _ (by omega) (by omega)⟩
        rw [q2, ← hfr1, hdq]
        unfold pw
        rw [if_pos (by omega)]
        have : (-num (q.map figOf)).natAbs = (num (q.map figOf)).toNat := by omega
        rw [this, hdigs]
      · rw [if_neg h45] at hE
        have hfr1 : powFr s p = p := by unfold powFr; rw [if_neg h45]
        rw [hE]
        refine ⟨hX _ ?_, hRD _ (by omega) (by omega)⟩
        rw [← hfr1, hdq]
        unfold pw
        rw [if_neg (by omega), hdigs]
theorem rdAt3_le (s : ByteArray) : rdAt3 s ≤ s.size := by
  unfold rdAt3
  have h2 : rdAt2 s ≤ s.size := by
    unfold rdAt2
    split
    · rename_i z
      unfold rdE at z
      rw [Bool.and_eq_true] at z
      exact hasB_lt z.2
    · exact rdAt_le s
  split
  · unfold powAA
    split
    · split
      · rename_i z; exact hasB_lt z
      · exact h2
    · have hfr : powFr s (rdAt2 s) ≤ s.size := by
        unfold powFr
        split
        · rename_i z; exact hasB_lt z
        · exact h2
      have u1 := bytesAt_run s (powFr s (rdAt2 s)) 4 (by omega) hfr
      have u2 := figTo_run s (powFr s (rdAt2 s)) 4 (by omega) hfr
      obtain ⟨V, hV⟩ := run_prefix 4 ((bytesOf s).drop (powFr s (rdAt2 s)))
      have vdig := run_digits 4 ((bytesOf s).drop (powFr s (rdAt2 s)))
      have vle := run_le 4 ((bytesOf s).drop (powFr s (rdAt2 s)))
      generalize run 4 ((bytesOf s).drop (powFr s (rdAt2 s))) = q at *
      have hVl : (bytesOf s).length - powFr s (rdAt2 s) = q.length + V.length := by
        have := congrArg List.length hV
        rwa [List.length_drop, List.length_append] at this
      rw [bytesOf_length] at hVl
      unfold powAt
      split
      · rename_i z
        unfold powQ at z
        rw [u1] at z
        have hfar := powLoop_far q vdig 0 (by omega) z
        obtain ⟨qF, qc, qs⟩ := figs_there vdig
        rw [qs] at hfar
        have hn := num_lt qF
        rw [List.length_map] at hn
        have h5 : T10 3 = 1000 := by decide
        have : 3 < q.length := T10_lt (by omega)
        omega
      · rw [u2]; omega
  · exact h2
theorem text_f (g : Bool) {l : List Int} {e : Int} (h : RDec l e) : dec_Text.f g l e = some ⟨(decText g l e).toArray⟩ := by
  unfold dec_Text.f
  have h1 := h.len
  have h2 := h.exp
  rw [if_pos ⟨by omega, by omega, by omega⟩]
theorem read_text (g : Bool) {l : List Int} {e : Int} (h : RDec l e) : dec_Read.f ⟨(decText g l e).toArray⟩ = some (g, l, e, 0, 0) := read_txt h (text_bytes g e h.figs)
/-- What Read answers: a right number whose text it is; or an error, and a place in the text. -/
theorem read_cases (s : ByteArray) (hs : s.size ≤ 140737488351232) : (∃ g l e, dec_Read.f s = some (g, l, e, 0, 0) ∧ RDec l e ∧ s = ⟨(decText g l e).toArray⟩) ∨ (∃ p : Nat, dec_Read.f s = some (false, [], 0, (p : Int), 2) ∧ p ≤ s.size) := by
  unfold dec_Read.f
  rw [if_pos hs]
  by_cases h : rdGood s = true
  · rw [if_pos h]
    obtain ⟨h1, h2⟩ := good_txt h
    exact .inl ⟨_, _, _, rfl, h2, bytesOf_inj (by rw [h1, text_bytes _ _ h2.figs])⟩
  · rw [if_neg h]
    refine .inr ⟨rdAt3 s, rfl, ?_⟩
    exact rdAt3_le s
end Go.Proofs.YtahkamggdbibiaaDoor.PZ
