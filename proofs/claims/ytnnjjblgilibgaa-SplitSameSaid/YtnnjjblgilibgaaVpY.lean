import Derived.Test.YtnnjjblgilibgaaVcE
/- An ordered region in two parts: between them less is told. -/
namespace Go.Proofs.YtnnjjblgilibgaaV
open Go Go.RowKit
set_option linter.unusedVariables false
set_option linter.unusedSimpArgs false
/-- The operations in their order, and what is behind. -/
theorem trace_pre {P : Program} {tt : TypeId → Option TI} (hT : TOk P tt) {n : Nat} {w0 : World} {M : Nat → Option Value} {N0 : NG} (all : Array Oper) (is : List Nat) {Q : Exit → Act → World → Prop} : ∀ (os : List Oper) (k : Nat), (∃ tl, all.toList.drop k = os ++ tl) → (∀ o ∈ os, okDst n o.dst) → ∀ (cr : List (List Operand)) (U : Nat → Prop) (E : Nat → Option AV) (L : Nat → Option LB) (nx : Nat) (rs : List (Nat × Res)), Trace P tt all os cr E L nx rs → (∀ l, nx ≤ l → ¬ U l) →
      (∀ a w, Tel n w0 M N0 (finU rs U) (finE os rs E) (finL rs L) a w → wpOps P all Q is a w) → ∀ (a : Act) (w : World), Tel n w0 M N0 U E L a w → wpOps P all Q (List.range' k os.length ++ is) a w
  | [], k, _, _, cr, U, E, L, nx, rs, ht, hU, hQ, a, w, h => by
    cases ht
    exact hQ a w h
  | o :: os, k, hk, hd, cr, U, E, L, nx, rs, ht, hU, hQ, a, w, h => by
    obtain ⟨tl, hk⟩ := hk
    have ho : all[k]? = some o := by
      have : all.toList[k]? = some o := by
        have := congrArg (fun l => l[0]?) hk
        simpa using this
      simpa using this
    have hk' : ∃ tl, all.toList.drop (k + 1) = os ++ tl := ⟨tl, by rw [← List.drop_drop, hk]; rfl⟩
    have hd' : ∀ o ∈ os, okDst n o.dst := fun o ho => hd o (by simp [ho])
    have hdo := hd o (by simp)
    rw [List.length_cons, List.range'_succ, List.cons_append, wpOps_cons]
    unfold wpOp
    rw [ho]
    simp only
    cases ht with
    | skip hg h' =>
      rename_i rs
      have hw := h
      obtain ⟨φ, N, R⟩ := h
      rw [wanted_of R hg]
      simp only [Bool.false_eq_true, if_false]
      exact trace_pre hT all is os (k + 1) hk' hd' _ U _ _ _ rs h' hU hQ _ _ (hw.skip hdo)
    | exec hg hr hc h' =>
      rename_i rs r
      obtain ⟨φ, N, R⟩ := h
      rw [wanted_of R hg]
      simp only [if_true]
      refine .inl (Oper.wp_mono (fun a' w' hn => ?_) (op_sound hT R hdo (fun _ => hU nx (Nat.le_refl _)) hr))
      refine trace_pre hT all is os (k + 1) hk' hd' _ _ _ _ _ rs h' ?_ hQ _ _ hn
      intro l hl hu
      cases r with
      | val x => exact hU l hl hu
      | put l' B => exact hU l hl hu
      | new B x =>
        have hl : nx + 1 ≤ l := hl
        rcases hu with hu | rfl
        · exact hU l (by omega) hu
        · omega
      | grow l' B x =>
        have hl : nx + 1 ≤ l := hl
        rcases hu with hu | rfl
        · exact hU l (by omega) hu
        · omega
      | eff l' B x =>
        have hl : nx + 1 ≤ l := hl
        rcases hu with hu | rfl
        · exact hU l (by omega) hu
        · omega
theorem two_of {P : Program} {tt : TypeId → Option TI} (hT : TOk P tt) {k0 : Nat} {ops : Array Oper} {s : St} {K Q : St → Prop} (os1 os2 : List Oper) (hops : ops.toList = os1 ++ os2) (h : evr P tt ops os1 [] s (fun s1 => ∃ s2, Weak k0 s1 s2 ∧ evr P tt ops os2 [] s2 Q)) : wkT P k0 ops false s K Q := by
  obtain ⟨rs, sf, htr, h1, h2, h3, s2, hw, h4⟩ := evr_trace ops os1 [] s h
  obtain ⟨rs2, sf2, htr2, g1, g2, g3, hq⟩ := evr_trace ops os2 [] s2 h4
  refine hand_of sf2 (fun n w0 M N0 a w Q' hM hd ht hQ => ?_) hq
  refine ⟨fun _ => ?_, fun e => by cases e⟩
  have hdo := dstsOk_mem hd
  rw [hops] at hdo
  have hsz : List.range ops.size = List.range' 0 os1.length ++ List.range' os1.length os2.length := by
    rw [← Array.length_toList, hops, List.length_append, List.range_eq_range', ← List.range'_append_1]
    simp
  rw [hsz]
  have hU : ∀ l, finU rs (fun l => l < s.next) l → l < sf.next := by
    rw [h3]
    exact finU_lt htr _ (fun _ h => h)
  refine trace_pre hT ops _ os1 0 ⟨os2, by simpa using hops⟩ (fun o ho => hdo o (by simp [ho])) [] _ _ _ _ rs htr (fun l h => by omega) (fun a1 w1 ht1 => ?_) a w ht
  have ht2 := hw _ _ _ _ _ _ hM (tel_fin ht1 hU h1 h2)
  have hU2 : ∀ l, finU rs2 (fun l => l < s2.next) l → l < sf2.next := by
    rw [g3]
    exact finU_lt htr2 _ (fun _ h => h)
  exact trace_seq (Q := onlyN Q') hT ops os2 os1.length (by rw [hops]; simp) (fun o ho => hdo o (by simp [ho])) [] _ _ _ _ rs2 htr2 (fun l h => by omega) (fun a2 w2 ht3 => hQ a2 w2 (tel_fin ht3 hU2 g1 g2)) a1 w1 ht2
end Go.Proofs.YtnnjjblgilibgaaV
