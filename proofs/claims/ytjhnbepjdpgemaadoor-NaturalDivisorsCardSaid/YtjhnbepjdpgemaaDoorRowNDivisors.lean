/-
  NaturalDivisors: the row and its tied card.
-/
import Derived.Test.YtjhnbepjdpgemaaDoorRowN
import Derived.Test.YtjhnbepjdpgemaaDoorNatI
namespace Go.Proofs.YtjhnbepjdpgemaaDoor.naturalDivisors
open Go.ChangeShapes Go.WideShapes Go.ChangeAt Go.RowKit Go.Joins
set_option linter.unusedVariables false
set_option linter.unusedSimpArgs false

set_option maxRecDepth 100000 in
theorem contract (H : Type) (enc : TypeId × Value → H) (W : World) (base : Nat) (args : Array Value) (ds gs : List (DataW H)) (before : List MemPlace) (htab : Tab W)
    (hval : ∀ (j : Nat) t v, Tryd.f9.params[j]? = some t → args[j]? = some v → Value.okWide Tryd.prog W .any base t v)
    (hW : DataW.Whole enc Tryd.prog Tryd.f9.params.toList Rows.naturalDivisorsSpec.vars false W args.toList ds gs before) :
    Calls Tryd.prog 9 args W fun e W' => ∃ v, e = .returned v ∧ Rows.naturalDivisorsSpec.post enc Tryd.prog Tryd.f9 false true false false W args v W' := by
  have hW' := hW
  obtain ⟨p, q, hA0, hV, rfl, hfz, hnd⟩ := hW
  have hA : DataW.TrodAll enc Tryd.prog W 0 (fun _ => true) true Tryd.f9.params.toList args.toList ds p := hA0
  rw [Tryd.params9] at hA hval
  obtain ⟨v0, vs0, d0, ds0, p0, q0, hargs, rfl, rfl, h0, r0⟩ := trodAll_cons hA
  obtain ⟨v1, vs1, d1, ds1, p1, q1, rfl, rfl, rfl, h1, r1⟩ := trodAll_cons r0
  obtain ⟨v2, vs2, d2, ds2, p2, q2, rfl, rfl, rfl, h2, r2⟩ := trodAll_cons r1
  obtain ⟨rfl, rfl, rfl⟩ := trodAll_nil r2
  obtain rfl : args = #[v0, v1, v2] := by cases args; simp_all
  obtain ⟨rfl, rfl⟩ := trodVars_none hV
  obtain ⟨l0, i0⟩ := open_Nat (hval 0 23 v0 rfl rfl) h0
  obtain ⟨l1, i1⟩ := open_Nat (hval 1 23 v1 rfl rfl) h1
  obtain ⟨l2, i2⟩ := open_Nat (hval 2 23 v2 rfl rfl) h2
  clear hA0
  refine (law_NaturalDivisors W htab v0 l0 i0 v1 l1 i1 v2 l2 i2).mono fun e W' ⟨r, he, hg, hr⟩ => ?_
  subst he
  subst hr
  have g : Below W.heap.size W W' := hg
  have b0 := Below.trod laidOut (by kernel_rfl) (of_decide_eq_true (by kernel_rfl)) h0 g (fun x hx => by simpa using hW'.lt x (by first | (simp [hx]; done) | (simp at hx; done) | (simp; exact hx)))
  have b1 := Below.trod laidOut (by kernel_rfl) (of_decide_eq_true (by kernel_rfl)) h1 g (fun x hx => by simpa using hW'.lt x (by first | (simp [hx]; done) | (simp at hx; done) | (simp; exact hx)))
  have b2 := Below.trod laidOut (by kernel_rfl) (of_decide_eq_true (by kernel_rfl)) h2 g (fun x hx => by simpa using hW'.lt x (by first | (simp [hx]; done) | (simp at hx; done) | (simp; exact hx)))
  exact ⟨_, rfl, _, _, _, [], _, [], hW', trodAll_cons_mk (shut_bool Tryd.underlying4 _) trodAll_mk0, trodAll_cons_mk b0 (trodAll_cons_mk b1 (trodAll_cons_mk b2 trodAll_mk0)), rfl, Below.frame g _, fun h => Bool.noConfusion h⟩

set_option maxRecDepth 100000 in
theorem lifted (os : Os) (started : os.Started) (H : Type) (enc : TypeId × Value → H) :
    ReturnsInHanded {} Tryd.checked os 9 .any (fun w args => (Rows.naturalDivisorsSpec.pre enc Tryd.prog Tryd.f9 [] false w args ∧ laidMetH Tryd.prog laidL w) ∧ sizedMet enc Tryd.prog Tryd.f9 (OpenSpec.ofChange Rows.naturalDivisorsSpec) false w args)
      (Rows.naturalDivisorsSpec.post enc Tryd.prog Tryd.f9 false true false false) := by
  refine returnsInHanded_of_change_and (C := Tryd.checked) (X := fun w _ => laidMetH Tryd.prog laidL w) (fun _ _ _ hh h => h.of_heap hh) own started (by kernel_rfl) Tryd.func9
    (ChangeSpec.witness_shaped (enc := enc) (C := Tryd.checked) (os := os) (X := fun w _ => laidMetH Tryd.prog laidL w) false (World.doorLaid Tryd.prog 400 os) #[.slice none 0 0, .slice none 0 0, .slice none 0 0] 8 rfl (World.shaped_of_RefB (by kernel_rfl) (by kernel_rfl)) (by kernel_rfl) (by kernel_rfl) (by kernel_rfl) (door_met os _)) ?_
  intro W base args ds gs before hval hW _ _ hL _
  exact contract H enc W base args ds gs before (tab_of hL) hval hW

theorem said : Rows.NaturalDivisorsSaid :=
  OpenClaim.holds_of_wide 9 Tryd.f9 rfl rfl rfl rfl rfl rfl rfl ⟨rfl, rfl, rfl, rfl, rfl⟩ rfl rfl rfl rfl rfl (by kernel_rfl) Tryd.func9 (by kernel_rfl)
    (of_decide_eq_true (by kernel_rfl)) (by unfold Func.isWrapper; first | (rw [if_pos (by decide +kernel)]; kernel_rfl) | (rw [if_neg (by decide +kernel)]; exact ⟨rfl, rfl⟩))
    (fun os started H enc _ => lifted os started H enc)

theorem proved : Rows.NaturalDivisorsCardSaid :=
  Claim7.holds_tied_plain_at .later [] [.data, .data, .data] true (true, "8f6c03142eba79dc3fa39fc80284f714fba448981eaf55aaae876338d38b02c5") false
    said (fun _ h => by cases h) (by kernel_rfl) (fun _ h => by cases h) naturalDivisors_row_tie rfl ⟨rfl, rfl⟩ (by kernel_rfl) rfl
    (fun f fn hf hfn => by
      obtain rfl : f = 9 := Option.some.inj ((show Tryd.prog.funcNamed "exodus/exoduslaw01.NaturalDivisors" = some 9 by kernel_rfl).symm.trans hf) |>.symm
      obtain rfl : fn = Tryd.f9 := (Option.some.inj (Tryd.func9.symm.trans hfn)).symm
      exact ⟨by kernel_rfl, fun j t ht => by
        rw [Tryd.params9] at ht
        have h3 : t ∈ [23, 23, 23] := by
          have := List.mem_of_getElem? (l := [23, 23, 23]) (i := j) (by simpa using ht)
          exact this
        have h4 : ∀ t ∈ [23, 23, 23], Tryd.prog.wantsStandIn t = false := by decide +kernel
        exact h4 t h3⟩)
    (by kernel_rfl)
end Go.Proofs.YtjhnbepjdpgemaaDoor.naturalDivisors
