/- The row and the card. -/
import Derived.Test.YtbegjaonkgdobaaDoorWS4
import Derived.Test.YtbegjaonkgdobaaDoorCards
import Derived.Test.YtbegjaonkgdobaaDoorTie
import Derived.SevenTiedAt
import Derived.OpenVars
set_option linter.unusedVariables false
set_option linter.unusedSimpArgs false
set_option linter.unusedSectionVars false
section
namespace Go.Proofs.Tryd.E
open Go Go.Eng
set_option linter.unusedVariables false
theorem mapO {H : Type} {enc : TypeId × Value → H} {P : Program} {w : World} {t : TypeId} {α β : Type} {f : α → IV} {wf : α → Prop} {g : β → IV} {wg : β → Prop} (h : Opens enc P w t f wf) (φ : α → β) (hf : ∀ a, g (φ a) = f a) (hw : ∀ a, wf a → wg (φ a)) : Opens enc P w t g wg := Opens.map φ hf hw h

def wSPart (x : SPart) : Prop := (Lit.int .i64 x.Kind).wf = true ∧ x.Text.size ≤ reachBytes

theorem oSPart_136 {H : Type} {enc : TypeId × Value → H} {w : World} : Opens enc Tryd.prog w 136 eSPart wSPart := by
  have q0 := OpF.nil (enc := enc) (P := Tryd.prog) (w := w) (L := 2) (acc := 2) rfl
  have q1 := OpF.cons (acc := 1) (n := 1) (t := 9) (Opens.str Tryd.underlying9) (by kernel_rfl) (Nat.le_of_ble_eq_true rfl) q0
  have q2 := OpF.cons (acc := 0) (n := 1) (t := 3) (Opens.int Tryd.underlying3) (by kernel_rfl) (Nat.le_of_ble_eq_true rfl) q1
  have r := Opens.st (l := [(3, 0), (9, 1)]) Tryd.underlying136 (by kernel_rfl) (by kernel_rfl) q2
  exact mapO r (fun p => ⟨p.1, p.2.1⟩) (fun _ => rfl) (fun p h => ⟨h.1, h.2.1⟩)

def wSGone (x : SGone) : Prop := ((∀ y0 ∈ x.Serial, (Lit.int .u8 y0).wf = true) ∧ x.Serial.length * 1 ≤ reachBytes ∧ x.Serial.length ≤ maxLen) ∧ (Lit.int .i64 x.At).wf = true

theorem oSGone_61 {H : Type} {enc : TypeId × Value → H} {w : World} : Opens enc Tryd.prog w 61 eSGone wSGone := by
  have q0 := OpF.nil (enc := enc) (P := Tryd.prog) (w := w) (L := 2) (acc := 2) rfl
  have q1 := OpF.cons (acc := 1) (n := 1) (t := 2) (Opens.int Tryd.underlying2) (by kernel_rfl) (Nat.le_of_ble_eq_true rfl) q0
  have q2 := OpF.cons (acc := 0) (n := 1) (t := 22) (Opens.sl (sz := 1) (b := 1) Tryd.underlying22 (by kernel_rfl) (by kernel_rfl) (by decide) (Opens.int Tryd.underlying5)) (by kernel_rfl) (Nat.le_of_ble_eq_true rfl) q1
  have r := Opens.st (l := [(22, 0), (2, 1)]) Tryd.underlying61 (by kernel_rfl) (by kernel_rfl) q2
  exact mapO r (fun p => ⟨p.1, p.2.1⟩) (fun _ => rfl) (fun p h => ⟨h.1, h.2.1⟩)

def wSSig (x : SSig) : Prop := (∀ y0 ∈ x.R.l, (Lit.int .u64 y0).wf = true) ∧ (∀ y0 ∈ x.S.l, (Lit.int .u64 y0).wf = true)

theorem oSSig_28 {H : Type} {enc : TypeId × Value → H} {w : World} : Opens enc Tryd.prog w 28 eSSig wSSig := by
  have q0 := OpF.nil (enc := enc) (P := Tryd.prog) (w := w) (L := 12) (acc := 12) rfl
  have q1 := OpF.cons (acc := 6) (n := 6) (t := 26) (Opens.arr Tryd.underlying26 Tryd.underlying24 (by kernel_rfl) (by kernel_rfl)) (by kernel_rfl) (Nat.le_of_ble_eq_true rfl) q0
  have q2 := OpF.cons (acc := 0) (n := 6) (t := 26) (Opens.arr Tryd.underlying26 Tryd.underlying24 (by kernel_rfl) (by kernel_rfl)) (by kernel_rfl) (Nat.le_of_ble_eq_true rfl) q1
  have r := Opens.st (l := [(26, 0), (26, 6)]) Tryd.underlying28 (by kernel_rfl) (by kernel_rfl) q2
  exact mapO r (fun p => ⟨p.1, p.2.1⟩) (fun _ => rfl) (fun p h => ⟨h.1, h.2.1⟩)

def wSCrl (x : SCrl) : Prop := ((∀ y0 ∈ x.Issuer, wSPart y0) ∧ x.Issuer.length * 24 ≤ reachBytes ∧ x.Issuer.length ≤ maxLen) ∧ (Lit.int .i64 x.This).wf = true ∧ (Lit.int .i64 x.Next).wf = true ∧ ((∀ y0 ∈ x.Gone, wSGone y0) ∧ x.Gone.length * 32 ≤ reachBytes ∧ x.Gone.length ≤ maxLen) ∧ ((∀ y0 ∈ x.Body, (Lit.int .u8 y0).wf = true) ∧ x.Body.length * 1 ≤ reachBytes ∧ x.Body.length ≤ maxLen) ∧ wSSig x.Sig

theorem oSCrl_54 {H : Type} {enc : TypeId × Value → H} {w : World} : Opens enc Tryd.prog w 54 eSCrl wSCrl := by
  have q0 := OpF.nil (enc := enc) (P := Tryd.prog) (w := w) (L := 17) (acc := 17) rfl
  have q1 := OpF.cons (acc := 5) (n := 12) (t := 28) oSSig_28 (by kernel_rfl) (Nat.le_of_ble_eq_true rfl) q0
  have q2 := OpF.cons (acc := 4) (n := 1) (t := 22) (Opens.sl (sz := 1) (b := 1) Tryd.underlying22 (by kernel_rfl) (by kernel_rfl) (by decide) (Opens.int Tryd.underlying5)) (by kernel_rfl) (Nat.le_of_ble_eq_true rfl) q1
  have q3 := OpF.cons (acc := 3) (n := 1) (t := 52) (Opens.sl (sz := 2) (b := 32) Tryd.underlying52 (by kernel_rfl) (by kernel_rfl) (by decide) oSGone_61) (by kernel_rfl) (Nat.le_of_ble_eq_true rfl) q2
  have q4 := OpF.cons (acc := 2) (n := 1) (t := 2) (Opens.int Tryd.underlying2) (by kernel_rfl) (Nat.le_of_ble_eq_true rfl) q3
  have q5 := OpF.cons (acc := 1) (n := 1) (t := 2) (Opens.int Tryd.underlying2) (by kernel_rfl) (Nat.le_of_ble_eq_true rfl) q4
  have q6 := OpF.cons (acc := 0) (n := 1) (t := 51) (Opens.sl (sz := 2) (b := 24) Tryd.underlying51 (by kernel_rfl) (by kernel_rfl) (by decide) oSPart_136) (by kernel_rfl) (Nat.le_of_ble_eq_true rfl) q5
  have r := Opens.st (l := [(51, 0), (2, 1), (2, 2), (52, 3), (22, 4), (28, 5)]) Tryd.underlying54 (by kernel_rfl) (by kernel_rfl) q6
  exact mapO r (fun p => ⟨p.1, p.2.1, p.2.2.1, p.2.2.2.1, p.2.2.2.2.1, p.2.2.2.2.2.1⟩) (fun _ => rfl) (fun p h => ⟨h.1, h.2.1, h.2.2.1, h.2.2.2.1, h.2.2.2.2.1, h.2.2.2.2.2.1⟩)

end Go.Proofs.Tryd.E
namespace Go.Proofs.YtbegjaonkgdobaaDoor
open Go Go.Eng Go.RowKit Go.ChangeShapes Go.WideShapes Go.ChangeAt Go.Proofs.Tryd.E
open Go.ChangeMaps (open_string shut_string)
set_option linter.unusedVariables false
theorem ownCrlHas : ownKnob Tryd.prog.godebug = none := by kernel_rfl
theorem laidOutCrlHas : laidOutB Tryd.prog = true := by kernel_rfl
theorem doorCrlHas (os : Os) (args : Array Value) : laidMetH Tryd.prog Rows.crlHasRow.laid ((World.doorLaid Tryd.prog 400 os).forCall (fun _ _ => 0) ⟨#[], args, []⟩).memory :=
  laidMetH_of_parts3 (fuel := 8) (laidMet_of_run' 8 (by kernel_rfl) (by kernel_rfl)) (by kernel_rfl) (by kernel_rfl)
set_option maxRecDepth 100000 in
theorem liftedCrlHas (law : ∀ (a0 : SCrl) (a1 : (List Int)), wSCrl a0 → ((∀ y0 ∈ a1, (Lit.int .u8 y0).wf = true) ∧ a1.length * 1 ≤ reachBytes ∧ a1.length ≤ maxLen) → ∃ k, f5 k a0 a1 = some true) (os : Os) (started : os.Started) (H : Type) (enc : TypeId × Value → H) :
    ReturnsInHanded {} Tryd.checked os 5 .any (fun w args => (Rows.crlHasSpec.pre enc Tryd.prog Tryd.f5 [] false w args ∧ laidMetH Tryd.prog Rows.crlHasRow.laid w) ∧ sizedMet enc Tryd.prog Tryd.f5 (OpenSpec.ofChange Rows.crlHasSpec) false w args)
      (Rows.crlHasSpec.post enc Tryd.prog Tryd.f5 false true false false) := by
  refine returnsInHanded_of_change_and (C := Tryd.checked) (X := fun w _ => laidMetH Tryd.prog Rows.crlHasRow.laid w) (fun _ _ _ hh h => h.of_heap hh) ownCrlHas started (by kernel_rfl) Tryd.func5
    (ChangeSpec.witness_shaped (enc := enc) (C := Tryd.checked) (os := os) (X := fun w _ => laidMetH Tryd.prog Rows.crlHasRow.laid w) false (World.doorLaid Tryd.prog 400 os) #[.agg #[.slice none 0 0, .int .i64 0, .int .i64 0, .slice none 0 0, .slice none 0 0, .int .u64 0, .int .u64 0, .int .u64 0, .int .u64 0, .int .u64 0, .int .u64 0, .int .u64 0, .int .u64 0, .int .u64 0, .int .u64 0, .int .u64 0, .int .u64 0], .slice none 0 0] 8 rfl (World.shaped_of_RefB (by kernel_rfl) (by kernel_rfl)) (by kernel_rfl) (by kernel_rfl) (by kernel_rfl) (doorCrlHas os _)) ?_
  intro W base args ds gs before hval0 hW _ hsz0 hL _
  have hsz : (DataW.weightsEach Tryd.prog (Tryd.f5.params.toList ++ Rows.crlHasSpec.plain.varTypes Tryd.prog) (ds ++ gs)).all (· ≤ reachBytes) = true := hsz0
  have hval : ∀ (j : Nat) t v, Tryd.f5.params[j]? = some t → args[j]? = some v → Value.okWide Tryd.prog W .any base t v := hval0
  have hW' := hW
  obtain ⟨p, q, hA0, hV, rfl, hfz, hnd⟩ := hW
  have hA : DataW.TrodAll enc Tryd.prog W 0 (fun _ => true) true Tryd.f5.params.toList args.toList ds p := hA0
  rw [Tryd.params5] at hA hval hsz
  obtain ⟨v0, vs0, d0, ds0, p0, q0, hargs, rfl, rfl, h0, r0⟩ := trodAll_cons hA
  obtain ⟨v1, vs1, d1, ds1, p1, q1, rfl, rfl, rfl, h1, r1⟩ := trodAll_cons r0
  obtain ⟨rfl, rfl, rfl⟩ := trodAll_nil r1
  obtain rfl : args = #[v0, v1] := by cases args; simp_all
  obtain ⟨rfl, rfl⟩ := trodVars_none hV
  have k0 := h0
  have lt0 : ∀ x ∈ p0, x.block < W.heap.size := by obtain ⟨m, hm⟩ := k0; exact DataW.trod_lt m _ _ _ hm
  have sm0 : Eng.small Tryd.prog 54 d0 := fun m hm => by
    have := List.all_eq_true.1 hsz _ (DataW.weights_mem_each (j := 0) rfl rfl m hm)
    simpa using this
  obtain ⟨fuel0, hf0⟩ := h0
  obtain ⟨a0, wf0, rc0⟩ := (oSCrl_54 : Opens enc Tryd.prog W 54 eSCrl (fun x => wSCrl x)) _ fuel0 _ _ hf0 sm0
  obtain ⟨cs0, rfl, hcs0⟩ : ∃ cs : Array Value, v0 = .agg cs ∧ True := by
    have q := hval 0 54 v0 rfl rfl
    unfold Value.okWide at q
    rw [Tryd.underlying54] at q
    obtain ⟨cs, e, _⟩ := q
    exact ⟨cs, e, trivial⟩
  have k1 := h1
  have lt1 : ∀ x ∈ p1, x.block < W.heap.size := by obtain ⟨m, hm⟩ := k1; exact DataW.trod_lt m _ _ _ hm
  have sm1 : Eng.small Tryd.prog 22 d1 := fun m hm => by
    have := List.all_eq_true.1 hsz _ (DataW.weights_mem_each (j := 1) rfl rfl m hm)
    simpa using this
  obtain ⟨fuel1, hf1⟩ := h1
  obtain ⟨a1, wf1, rc1⟩ := ((Opens.sl (sz := 1) (b := 1) Tryd.underlying22 (by kernel_rfl) (by kernel_rfl) (by decide) (Opens.int Tryd.underlying5)) : Opens enc Tryd.prog W 22 (fun l : (List Int) => .sl 1 (l.map (eI .u8))) (fun x => ((∀ y0 ∈ x, (Lit.int .u8 y0).wf = true) ∧ x.length * 1 ≤ reachBytes ∧ x.length ≤ maxLen))) _ fuel1 _ _ hf1 sm1
  obtain ⟨ad1, ln1, cp1, rfl⟩ := okWide_slice Tryd.underlying22 (hval 1 22 v1 rfl rfl)
  obtain ⟨k, hk⟩ := law a0 a1 wf0 wf1
  refine ((f5_ok k a0 a1 true hk).row (w := W) (fun g x hg => by cases hg) (.cons _ _ _ _ (.agg _ _ rfl (.im _ _ rc0)) (.cons _ _ _ _ (.one _ _ rfl (.im _ _ rc1)) .nil))).mono fun e W' he => ?_
  obtain ⟨v, bs', I', rfl, _, hv, bel⟩ := he
  obtain ⟨rfl, _⟩ := hv.v_inv
  exact ⟨_, rfl, _, _, _, [], _, [], hW', trodAll_mk1 (shut_bool Tryd.underlying4 _), (trodAll_cons_mk (Below.trod laidOutCrlHas (by kernel_rfl) (of_decide_eq_true (by kernel_rfl)) k0 bel lt0) (trodAll_cons_mk (Below.trod laidOutCrlHas (by kernel_rfl) (of_decide_eq_true (by kernel_rfl)) k1 bel lt1) trodAll_mk0)), rfl, bel.frame _, fun h => by cases h⟩
theorem rowCrlHas (law : ∀ (a0 : SCrl) (a1 : (List Int)), wSCrl a0 → ((∀ y0 ∈ a1, (Lit.int .u8 y0).wf = true) ∧ a1.length * 1 ≤ reachBytes ∧ a1.length ≤ maxLen) → ∃ k, f5 k a0 a1 = some true) : Rows.CrlHasSaid :=
  OpenClaim.holds_of_wide 5 Tryd.f5 rfl rfl rfl rfl rfl rfl rfl ⟨rfl, rfl, rfl, rfl, rfl⟩ rfl rfl rfl rfl rfl (by kernel_rfl) Tryd.func5 (by kernel_rfl)
    (of_decide_eq_true (by kernel_rfl)) (by unfold Func.isWrapper; first | (rw [if_pos (by decide +kernel)]; kernel_rfl) | (rw [if_neg (by decide +kernel)]; exact ⟨rfl, rfl⟩))
    (fun os started H enc _ => liftedCrlHas law os started H enc)
theorem cardCrlHas (law : ∀ (a0 : SCrl) (a1 : (List Int)), wSCrl a0 → ((∀ y0 ∈ a1, (Lit.int .u8 y0).wf = true) ∧ a1.length * 1 ≤ reachBytes ∧ a1.length ≤ maxLen) → ∃ k, f5 k a0 a1 = some true) : Rows.CrlHasCardSaid :=
  Claim7.holds_tied_plain_at .later [] Rows.crlHasCard.laidKinds true Rows.crlHasCard.stood.harness true
    (rowCrlHas law) (fun _ h => by cases h) (by kernel_rfl) (fun _ h => by cases h) crlHas_row_tie rfl ⟨rfl, rfl⟩ (by kernel_rfl) rfl
    (fun f fn hf hfn => by
      obtain rfl : f = 5 := Option.some.inj ((show Tryd.prog.funcNamed "escutcheon/escutcheonlaw18.CrlHas" = some 5 by kernel_rfl).symm.trans hf) |>.symm
      obtain rfl : fn = Tryd.f5 := (Option.some.inj (Tryd.func5.symm.trans hfn)).symm
      exact ⟨by kernel_rfl, fun j t ht => by
        rw [Tryd.params5] at ht
        have hm : t ∈ [54, 22] := by simpa using Array.mem_of_getElem? ht
        have hall : ([54, 22].all fun u => !Tryd.prog.wantsStandIn u) = true := by kernel_rfl
        exact (show Tryd.prog.wantsStandIn t = false by simpa using List.all_eq_true.1 hall t hm)⟩)
    (by kernel_rfl)
end Go.Proofs.YtbegjaonkgdobaaDoor
end
namespace Go.Proofs.YtbegjaonkgdobaaDoor
open Go Go.Eng Go.Proofs.Tryd.E
theorem crlHas_holds : Rows.CrlHasCardSaid := cardCrlHas (fun a0 a1 h _ => lawCrlHas a0 a1 h.2.2.2.1.2.1)
end Go.Proofs.YtbegjaonkgdobaaDoor
