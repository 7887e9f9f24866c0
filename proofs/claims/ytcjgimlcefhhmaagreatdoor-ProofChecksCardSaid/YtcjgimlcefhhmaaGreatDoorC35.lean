/- Texts: PxB. -/
import Derived.Lib.SmallJoins
import Derived.Test.YtcjgimlcefhhmaaGreatDoorC29
set_option linter.unusedVariables false
set_option linter.unusedSimpArgs false
set_option maxRecDepth 100000
set_option maxHeartbeats 12800000
namespace Go.Proofs.YtcjgimlcefhhmaaGreatDoor
namespace Prf
open Go.RowKit Go.Lib
theorem J3u (w:World)(e:TypeId)(s:ByteArray):Gr w (Lib.bytesWorld w e s):=Go.Joins.below_bytesWorld _ w e s (Nat.le_refl _)
theorem J52 (w:World)(s:List UInt8)(v:Int)(h:Lib.parseIntB 64 s = .ok v)(b:s.length≤1000):
  Calls Tryz.prog 117 #[.string ⟨s.toArray⟩,.int .i64 10,.int .i64 64] w (Ret w fun r _=>r = .tuple #[.int .i64 v,.nilIface]):=by
 refine(Tryz.strconv_ParseInt_10_at64_ok ⟨s.toArray⟩ (by show s.toArray.size≤_;simp;omega) v (by simpa using h) w).mono ?_;rintro e w' ⟨rfl,a⟩;refine⟨_,rfl,?_,rfl⟩;rcases a with rfl|⟨t,rfl⟩
 ·exact Gr.refl _
 ·exact J3u _ _ _
theorem J0z (w:World)(a d o n c:Nat)(q:Option Addr)(s:List UInt8)(v:Int)(b:Bool)(r:Ja w a #[.slice (some ⟨d,o,none⟩) n c,.bool b])(N:w.cell? ⟨d,o,none⟩=some (.string ⟨s.toArray⟩))(x:Lib.parseIntB 64 s = .ok v)(u:s.length≤1000)(K:1≤n)(M:n≤c)(I:c≤1000)
  (h:(c=1∧q=some ⟨d,o,none⟩)∨(c≠1∧q=some ⟨d,o+1,none⟩)):
  Calls Tryz.prog 65 #[.pointer (some ⟨a,0,none⟩)] w (fun e w'=>e = .returned (.int .i64 v)∧w.grownBy w' (some a)∧Ja w' a #[.slice q (n - 1) (c - 1),.bool b]):=by
 obtain⟨D,B,A,C⟩:=Z4 r x u h;have y:w.cell? ⟨a,0,none⟩=some (.slice (some ⟨d,o,none⟩) n c):=r.at 0 rfl;have L:((n:Int) == 0)=false:=by simp;omega
 have J:0 < n:=by omega
 clear r x u h;go_enter Tryz.func65,Tryz.ntmps65;go_wp2_with fail;clear y;refine(J52 w s v B.o A.o).mono ?_;rintro _ f ⟨_,rfl,g1,rfl⟩;obtain⟨k,t⟩:=Z2 (D.o.grow g1) g1;have y:f.cell? ⟨a,0,none⟩=some (.slice (some ⟨d,o,none⟩) n c):=k.o.at 0 rfl;have O:f.cell? ⟨a,1,none⟩=some (.bool b):=k.o.at 1 rfl;have F:=Ja.f k.o 1;obtain⟨g,m⟩:∃ z,f.setCell ⟨a,1,none⟩ (.bool b)=z:=⟨_,rfl⟩
 have l:=Z (show Ja g a #[.slice (some ⟨d,o,none⟩) n c,.bool b] from by
  have:=k.o.set 1 (.bool b);rw[m] at this;simpa using this)
 have P:g.cell? ⟨a,0,none⟩=some (.slice (some ⟨d,o,none⟩) n c):=l.o.at 0 rfl;have E:=Ja.f l.o 0;have G:(1:Int)≤(n:Int):=by omega
 clear g1;rcases C.o with⟨p,h⟩|⟨p,h⟩
 ·subst p;obtain rfl:n=1:=by omega
  obtain⟨j,i⟩:=Z2 (l.o.set 0 (.slice q 0 0)) ((J8 a t.o).trans ((m ▸ Jp.set a f 1 (.bool b):f.grownBy g (some a)).trans (Jp.set a g 0 (.slice q 0 0))));subst h
  cases b
  ·go_wp2_with fail;go_ret;exact⟨rfl,by simpa using i.o,by simpa using j.o⟩
  ·go_wp2_with fail;go_ret;exact⟨rfl,by simpa using i.o,by simpa using j.o⟩
 ·have H:(c == 1)=false:=by simpa using p
  obtain⟨j,i⟩:=Z2 (l.o.set 0 (.slice q (n - 1) (c - 1))) ((J8 a t.o).trans ((m ▸ Jp.set a f 1 (.bool b):f.grownBy g (some a)).trans (Jp.set a g 0 (.slice q (n - 1) (c - 1)))));subst h
  cases b
  ·go_wp2_with fail;go_ret;exact⟨rfl,by simpa using i.o,by simpa using j.o⟩
  ·go_wp2_with fail;go_ret;exact⟨rfl,by simpa using i.o,by simpa using j.o⟩
end Prf
end Go.Proofs.YtcjgimlcefhhmaaGreatDoor
