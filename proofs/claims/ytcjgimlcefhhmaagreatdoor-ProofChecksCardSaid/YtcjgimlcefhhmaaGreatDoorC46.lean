/- Texts: RowQChecksB. -/
import Derived.Test.YtcjgimlcefhhmaaGreatDoorC44
import Derived.Test.YtcjgimlcefhhmaaGreatDoorC45
set_option linter.unusedVariables false
set_option linter.unusedSimpArgs false
set_option maxRecDepth 100000
set_option maxHeartbeats 12800000
namespace Go.Proofs.YtcjgimlcefhhmaaGreatDoor.proofChecks
open Go.ChangeShapes Go.WideShapes Go.ChangeAt Go.RowKit Go.Joins
theorem said:Rows.ProofChecksSaid:=
 OpenClaim.holds_of_wide 3 Tryz.f3 rfl rfl rfl rfl rfl rfl rfl ⟨rfl,rfl,rfl,rfl,rfl⟩ rfl rfl rfl rfl rfl (by kernel_rfl) Tryz.func3 closed
  (of_decide_eq_true (by kernel_rfl)) (by unfold Func.isWrapper;first|(rw[if_pos (by decide +kernel)];kernel_rfl)|(rw[if_neg (by decide +kernel)];exact⟨rfl,rfl⟩))
  (fun os a H enc _=>lifted os a H enc)
theorem proved:Rows.ProofChecksCardSaid:=
 Claim7.holds_tied_plain_at .later [] [.data, .data, .data, .data, .sentinel, .sentinel, .pinned] true (true, "ee852439bcde034b66adee5329636392fd6f75bee2788c99fc96101d61936c8a") true
  said (fun _ h=>by cases h) (by kernel_rfl) (fun _ h=>by cases h) proofChecks_row_tie rfl ⟨rfl,rfl⟩ (by kernel_rfl) rfl
  (fun f b g k=>by
   obtain rfl : f = 3 := Option.some.inj ((show Tryz.prog.funcNamed "exodus/exoduslaw09.ProofChecks" = some 3 by kernel_rfl).symm.trans g) |>.symm;obtain rfl:b=Tryz.f3:=(Option.some.inj (Tryz.func3.symm.trans k)).symm;exact⟨by kernel_rfl,fun j t a=>by
    rw[Tryz.params3] at a;have c:t ∈ [25,26]:=by
     have:=List.mem_of_getElem? (l:=[25,26]) (i:=j) (by simpa using a);exact this
    have d:∀ t ∈ [25,26],Tryz.prog.wantsStandIn t=false:=by decide +kernel
    exact d t c⟩)
  (by kernel_rfl)
end Go.Proofs.YtcjgimlcefhhmaaGreatDoor.proofChecks
