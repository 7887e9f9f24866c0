/-
 PlacementInitial: the row and its tied card.
-/
import Derived.Test.YtchpbaaabnkkkaaGreatDoorOpen
import Derived.Test.YtchpbaaabnkkkaaGreatDoorPmI
import Derived.Test.YtchpbaaabnkkkaaGreatDoorOp
namespace Go.Proofs.YtchpbaaabnkkkaaGreatDoor.placementInitial
open Go.ChangeShapes Go.WideShapes Go.ChangeAt Go.RowKit Go.Joins
set_option linter.unusedVariables false
set_option linter.unusedSimpArgs false

set_option maxRecDepth 100000 in
theorem contract (H : Type) (enc : TypeId × Value → H) (W : World) (base : Nat) (args : Array Value) (ds gs : List (DataW H)) (before : List MemPlace) (htab : Tab W)
  (hval : ∀ (j : Nat) t v, Tryz.f3.params[j]? = some t → args[j]? = some v → Value.okWide Tryz.prog W .any base t v)
  (hW : DataW.Whole enc Tryz.prog Tryz.f3.params.toList Rows.placementInitialSpec.vars false W args.toList ds gs before)
  (hwt : (DataW.weightsEach Tryz.prog (Tryz.f3.params.toList ++ Rows.placementInitialSpec.plain.varTypes Tryz.prog) (ds ++ gs)).all (· ≤ reachBytes) = true) :
  Calls Tryz.prog 3 args W fun e W' => ∃ v, e = .returned v ∧ Rows.placementInitialSpec.post enc Tryz.prog Tryz.f3 false true false false W args v W' := by
 have hW' := hW
 obtain ⟨p, q, hA0, hV, rfl, hfz, hnd⟩ := hW
 have hA : DataW.TrodAll enc Tryz.prog W 0 (fun _ => true) true Tryz.f3.params.toList args.toList ds p := hA0
 rw [Tryz.params3] at hA hval
 obtain ⟨v0, vs0, d0, ds0, p0, q0, hargs, rfl, rfl, h0, r0⟩ := trodAll_cons hA
 obtain ⟨rfl, rfl, rfl⟩ := trodAll_nil r0
 obtain rfl : args = #[v0] := by cases args; simp_all
 obtain ⟨rfl, rfl⟩ := trodVars_none hV
 have hlt : Light 29 d0 := by
  rw [Tryz.params3] at hwt
  have hq : Rows.placementInitialSpec.plain.varTypes Tryz.prog = [] := rfl
  rw [hq] at hwt
  simp only [List.append_nil, DataW.weightsEach, List.all_append, Bool.and_eq_true] at hwt
  unfold Light
  simp [hwt]
 obtain ⟨P0, M0, rfl, m0, k0⟩ := open_model (hval 0 29 v0 rfl rfl) h0 (hlt)
 clear hA0
 refine (law_PlacementInitial W htab P0 M0 m0 k0).mono fun e W' ⟨r, he, hg, hr⟩ => ?_
 subst he
 subst hr
 have g : Below W.heap.size W W' := hg
 have b0 := Below.trod laidOut (by kernel_rfl) (of_decide_eq_true (by kernel_rfl)) h0 g (fun x hx => by simpa using hW'.lt x (by first | (simp [hx]; done) | (simp at hx; done) | (simp; exact hx)))
 exact ⟨_, rfl, _, _, _, [], _, [], hW', trodAll_cons_mk (shut_bool Tryz.underlying4 _) trodAll_mk0, trodAll_cons_mk b0 trodAll_mk0, rfl, Below.frame g _, fun h => Bool.noConfusion h⟩

set_option maxRecDepth 100000 in
theorem lifted (os : Os) (started : os.Started) (H : Type) (enc : TypeId × Value → H) :
  ReturnsInHanded {} Tryz.checked os 3 .any (fun w args => (Rows.placementInitialSpec.pre enc Tryz.prog Tryz.f3 [] false w args ∧ laidMetH Tryz.prog laidL w) ∧ sizedMet enc Tryz.prog Tryz.f3 (OpenSpec.ofChange Rows.placementInitialSpec) false w args)
   (Rows.placementInitialSpec.post enc Tryz.prog Tryz.f3 false true false false) := by
 refine returnsInHanded_of_change_and (C := Tryz.checked) (X := fun w _ => laidMetH Tryz.prog laidL w) (fun _ _ _ hh h => h.of_heap hh) own started (by kernel_rfl) Tryz.func3
  (ChangeSpec.witness_shaped (enc := enc) (C := Tryz.checked) (os := os) (X := fun w _ => laidMetH Tryz.prog laidL w) false (World.doorLaid Tryz.prog 400 os) #[.agg #[.slice none 0 0, .slice none 0 0, .slice none 0 0, .slice none 0 0, .slice none 0 0, .slice none 0 0, .int .i64 0, .int .i64 0, .int .i64 0, .int .i64 0, .slice none 0 0]] 8 rfl (World.shaped_of_RefB (by kernel_rfl) (by kernel_rfl)) (by kernel_rfl) (by kernel_rfl) (by kernel_rfl) (door_met os _)) ?_
 intro W base args ds gs before hval hW _ hwt hL _
 exact contract H enc W base args ds gs before (tab_of hL) hval hW hwt

theorem said : Rows.PlacementInitialSaid :=
 OpenClaim.holds_of_wide 3 Tryz.f3 rfl rfl rfl rfl rfl rfl rfl ⟨rfl, rfl, rfl, rfl, rfl⟩ rfl rfl rfl rfl rfl (by kernel_rfl) Tryz.func3 (by kernel_rfl)
  (of_decide_eq_true (by kernel_rfl)) (by unfold Func.isWrapper; first | (rw [if_pos (by decide +kernel)]; kernel_rfl) | (rw [if_neg (by decide +kernel)]; exact ⟨rfl, rfl⟩))
  (fun os started H enc _ => lifted os started H enc)

theorem proved : Rows.PlacementInitialCardSaid :=
 Claim7.holds_tied_plain_at .later [] [.listed, .data] true (true, "fdc3113d911dc159979603fa5e3d7c3aefe118d2acfcfe54d5c85cd17e010b02") false
  said (fun _ h => by cases h) (by kernel_rfl) (fun _ h => by cases h) placementInitial_row_tie rfl ⟨rfl, rfl⟩ (by kernel_rfl) rfl
  (fun f fn hf hfn => by
   obtain rfl : f = 3 := Option.some.inj ((show Tryz.prog.funcNamed "exodus/exoduslaw20.PlacementInitial" = some 3 by kernel_rfl).symm.trans hf) |>.symm
   obtain rfl : fn = Tryz.f3 := (Option.some.inj (Tryz.func3.symm.trans hfn)).symm
   exact ⟨by kernel_rfl, fun j t ht => by
    rw [Tryz.params3] at ht
    have h3 : t ∈ [29] := by
     have := List.mem_of_getElem? (l := [29]) (i := j) (by simpa using ht)
     exact this
    have h4 : ∀ t ∈ [29], Tryz.prog.wantsStandIn t = false := by decide +kernel
    exact h4 t h3⟩)
  (by kernel_rfl)
end Go.Proofs.YtchpbaaabnkkkaaGreatDoor.placementInitial
