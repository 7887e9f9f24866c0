/- Texts: PxB. -/
import Derived.Lib.SmallJoins
import Derived.Test.YtcjgimlcefhhmaaGreatDoorU5
import Derived.Test.YtcjgimlcefhhmaaGreatDoorU38
set_option linter.unusedVariables false
set_option linter.unusedSimpArgs false
set_option maxRecDepth 100000
set_option maxHeartbeats 12800000
namespace Go.Proofs.YtcjgimlcefhhmaaGreatDoor
namespace Prf
open Go.RowKit Go.Lib
theorem J37 (w:World)(e:TypeId)(s:ByteArray):Gr w (Lib.bytesWorld w e s):=Go.Joins.below_bytesWorld _ w e s (Nat.le_refl _)
theorem J4O (w:World)(s:List UInt8)(v:Int)(h:Lib.parseIntB 64 s = .ok v)(hl:s.length≤1000):
  Calls Tryz.prog 117 #[.string ⟨s.toArray⟩,.int .i64 10,.int .i64 64] w (Ret w fun r _=>r = .tuple #[.int .i64 v,.nilIface]):=by
 refine(Tryz.strconv_ParseInt_10_at64_ok ⟨s.toArray⟩ (by show s.toArray.size≤_;simp;omega) v (by simpa using h) w).mono ?_
 rintro e w' ⟨rfl,hw⟩
 refine⟨_,rfl,?_,rfl⟩
 rcases hw with rfl|⟨t,rfl⟩
 ·exact Gr.refl _
 ·exact J37 _ _ _
theorem J0d (w:World)(br bw o n c:Nat)(q:Option Addr)(s:List UInt8)(v:Int)(bad:Bool)(hr:Ja w br #[.slice (some ⟨bw,o,none⟩) n c,.bool bad])(hs:w.cell? ⟨bw,o,none⟩=some (.string ⟨s.toArray⟩))(hp:Lib.parseIntB 64 s = .ok v)(hl:s.length≤1000)(hn:1≤n)(hnc:n≤c)(hcb:c≤1000)
  (hq:(c=1∧q=some ⟨bw,o,none⟩)∨(c≠1∧q=some ⟨bw,o+1,none⟩)):
  Calls Tryz.prog 65 #[.pointer (some ⟨br,0,none⟩)] w (fun e w'=>e = .returned (.int .i64 v)∧w.grownBy w' (some br)∧Ja w' br #[.slice q (n - 1) (c - 1),.bool bad]):=by
 have HR:=ξ hr
 have HP:=ξ hp
 have HL:=ξ hl
 have HQ:=ξ hq
 have r0:w.cell? ⟨br,0,none⟩=some (.slice (some ⟨bw,o,none⟩) n c):=hr.at 0 rfl
 have hn0:((n:Int) == 0)=false:=by simp;omega
 have hlt:0 < n:=by omega
 clear hr hp hl hq
 go_enter Tryz.func65,Tryz.ntmps65
 go_wp2_with fail
 clear r0
 refine(J4O w s v HP.out HL.out).mono ?_
 rintro _ w1 ⟨_,rfl,g1,rfl⟩
 have HR1:=ξ (HR.out.grow g1)
 have G1:=ξ g1
 have r0:w1.cell? ⟨br,0,none⟩=some (.slice (some ⟨bw,o,none⟩) n c):=HR1.out.at 0 rfl
 have r1:w1.cell? ⟨br,1,none⟩=some (.bool bad):=HR1.out.at 1 rfl
 have f1:=Ja.f HR1.out 1
 obtain⟨W2,hW2⟩:∃ z,w1.setCell ⟨br,1,none⟩ (.bool bad)=z:=⟨_,rfl⟩
 have HR2:=ξ (show Ja W2 br #[.slice (some ⟨bw,o,none⟩) n c,.bool bad] from by
  have:=HR1.out.set 1 (.bool bad)
  rw[hW2] at this
  simpa using this)
 have s0:W2.cell? ⟨br,0,none⟩=some (.slice (some ⟨bw,o,none⟩) n c):=HR2.out.at 0 rfl
 have f0:=Ja.f HR2.out 0
 have h1n:(1:Int)≤(n:Int):=by omega
 clear g1
 rcases HQ.out with⟨hc,hq⟩|⟨hc,hq⟩
 ·subst hc
  obtain rfl:n=1:=by omega
  have HX:=ξ (HR2.out.set 0 (.slice q 0 0))
  have HGG:=ξ ((J5 br G1.out).trans ((hW2 ▸ Jl.set br w1 1 (.bool bad):w1.grownBy W2 (some br)).trans (Jl.set br W2 0 (.slice q 0 0))))
  subst hq
  cases bad
  ·go_wp2_with fail
   go_ret
   exact⟨rfl,by simpa using HGG.out,by simpa using HX.out⟩
  ·go_wp2_with fail
   go_ret
   exact⟨rfl,by simpa using HGG.out,by simpa using HX.out⟩
 ·have hc':(c == 1)=false:=by simpa using hc
  have HX:=ξ (HR2.out.set 0 (.slice q (n - 1) (c - 1)))
  have HGG:=ξ ((J5 br G1.out).trans ((hW2 ▸ Jl.set br w1 1 (.bool bad):w1.grownBy W2 (some br)).trans (Jl.set br W2 0 (.slice q (n - 1) (c - 1)))))
  subst hq
  cases bad
  ·go_wp2_with fail
   go_ret
   exact⟨rfl,by simpa using HGG.out,by simpa using HX.out⟩
  ·go_wp2_with fail
   go_ret
   exact⟨rfl,by simpa using HGG.out,by simpa using HX.out⟩
end Prf
end Go.Proofs.YtcjgimlcefhhmaaGreatDoor
