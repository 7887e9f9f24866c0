/- Texts: PsN. -/
import Derived.Test.YtcjgimlcefhhmaaGreatDoorC22
set_option linter.unusedVariables false
set_option linter.unusedSimpArgs false
set_option maxRecDepth 100000
set_option maxHeartbeats 12800000
namespace Go.Proofs.YtcjgimlcefhhmaaGreatDoor
namespace Prf
open Go.RowKit Go.Lib
def Jh (kd var pos ck row:Int)(mn cn vn:Nat):Prop:=
 (kd=0∧(ck=0∧row=0∧cn=0∧vn=0)∧var=0∧pos=0)∨(kd=1∧(ck=0∧row=0∧cn=0∧vn=0)∧pos=0∧mn=0)∨(kd=2∧(ck=0∧row=0∧cn=0∧vn=0)∧mn=0)∨(kd=3∧var=0∧pos=0∧mn=0)
theorem dz (z:Int):z=0∨(z == 0)=false:=by
 by_cases h:z=0
 ·exact .inl h
 ·exact .inr (by simpa using h)
theorem dn (n:Nat):n=0∨((n:Int) == 0)=false:=by
 by_cases h:n=0
 ·exact .inl h
 ·exact .inr (beq_eq_false_iff_ne.2 (by omega))
theorem dk (z:Int):z=0∨z=1∨z=2∨z=3∨((z == 0)=false∧(z == 1)=false∧(z == 2)=false∧(z == 3)=false):=by
 by_cases a:z=0
 ·exact .inl a
 by_cases b:z=1
 ·exact .inr (.inl b)
 by_cases c:z=2
 ·exact .inr (.inr (.inl c))
 by_cases d:z=3
 ·exact .inr (.inr (.inr (.inl d)))
 ·exact .inr (.inr (.inr (.inr ⟨by simpa using a,by simpa using b,by simpa using c,by simpa using d⟩)))
theorem J5P (w:World)(n k j o row:Int)(b m l:Nat)(g d i:Option Addr)(f c h:Nat):
  Calls Tryz.prog 100 #[.agg #[.int .i64 n,.slice g b f,.int .i64 k,.int .i64 j,.int .i64 o,.slice d m c,.int .i64 row,.slice i l h]] w (Ret w fun r _=>Jb (Jh n k j o row b m l) r):=by
 ·rcases dz o with rfl|y
  ·rcases dz row with rfl|A
   ·rcases dn m with rfl|z
    ·rcases dn l with rfl|B
     ·rcases dk n with rfl|rfl|rfl|rfl|⟨t,u,v,x⟩
      ·rcases dz k with rfl|s
       ·rcases dz j with rfl|q
        ·have a:=Z (Ja.new w #[.int .i64 0,.slice g b f,.int .i64 0,.int .i64 0,.int .i64 0,.slice d 0 c,.int .i64 0,.slice i 0 h] 47);go_enter Tryz.func100,Tryz.ntmps100;go_wp2_with fail;go_ret;exact⟨_,rfl,a.o.1,_,rfl,by first|(simp[Jh];done)|(simp_all[Jh];done)⟩
        ·have a:=Z (Ja.new w #[.int .i64 0,.slice g b f,.int .i64 0,.int .i64 j,.int .i64 0,.slice d 0 c,.int .i64 0,.slice i 0 h] 47);go_enter Tryz.func100,Tryz.ntmps100;go_wp2_with fail;go_ret;exact⟨_,rfl,a.o.1,_,rfl,by first|(simp[Jh];done)|(simp_all[Jh];done)⟩
       ·have a:=Z (Ja.new w #[.int .i64 0,.slice g b f,.int .i64 k,.int .i64 j,.int .i64 0,.slice d 0 c,.int .i64 0,.slice i 0 h] 47);go_enter Tryz.func100,Tryz.ntmps100;go_wp2_with fail;go_ret;exact⟨_,rfl,a.o.1,_,rfl,by first|(simp[Jh];done)|(simp_all[Jh];done)⟩
      ·rcases dz j with rfl|q
       ·rcases dn b with rfl|p
        ·have a:=Z (Ja.new w #[.int .i64 1,.slice g 0 f,.int .i64 k,.int .i64 0,.int .i64 0,.slice d 0 c,.int .i64 0,.slice i 0 h] 47);go_enter Tryz.func100,Tryz.ntmps100;go_wp2_with fail;go_ret;exact⟨_,rfl,a.o.1,_,rfl,by first|(simp[Jh];done)|(simp_all[Jh];done)⟩
        ·have a:=Z (Ja.new w #[.int .i64 1,.slice g b f,.int .i64 k,.int .i64 0,.int .i64 0,.slice d 0 c,.int .i64 0,.slice i 0 h] 47);go_enter Tryz.func100,Tryz.ntmps100;go_wp2_with fail;go_ret;exact⟨_,rfl,a.o.1,_,rfl,by first|(simp[Jh];done)|(simp_all[Jh];done)⟩
       ·have a:=Z (Ja.new w #[.int .i64 1,.slice g b f,.int .i64 k,.int .i64 j,.int .i64 0,.slice d 0 c,.int .i64 0,.slice i 0 h] 47);go_enter Tryz.func100,Tryz.ntmps100;go_wp2_with fail;go_ret;exact⟨_,rfl,a.o.1,_,rfl,by first|(simp[Jh];done)|(simp_all[Jh];done)⟩
      ·rcases dn b with rfl|p
       ·have a:=Z (Ja.new w #[.int .i64 2,.slice g 0 f,.int .i64 k,.int .i64 j,.int .i64 0,.slice d 0 c,.int .i64 0,.slice i 0 h] 47);go_enter Tryz.func100,Tryz.ntmps100;go_wp2_with fail;go_ret;exact⟨_,rfl,a.o.1,_,rfl,by first|(simp[Jh];done)|(simp_all[Jh];done)⟩
       ·have a:=Z (Ja.new w #[.int .i64 2,.slice g b f,.int .i64 k,.int .i64 j,.int .i64 0,.slice d 0 c,.int .i64 0,.slice i 0 h] 47);go_enter Tryz.func100,Tryz.ntmps100;go_wp2_with fail;go_ret;exact⟨_,rfl,a.o.1,_,rfl,by first|(simp[Jh];done)|(simp_all[Jh];done)⟩
      ·rcases dz k with rfl|s
       ·rcases dz j with rfl|q
        ·rcases dn b with rfl|p
         ·have a:=Z (Ja.new w #[.int .i64 3,.slice g 0 f,.int .i64 0,.int .i64 0,.int .i64 0,.slice d 0 c,.int .i64 0,.slice i 0 h] 47);go_enter Tryz.func100,Tryz.ntmps100;go_wp2_with fail;go_ret;exact⟨_,rfl,a.o.1,_,rfl,by first|(simp[Jh];done)|(simp_all[Jh];done)⟩
         ·have a:=Z (Ja.new w #[.int .i64 3,.slice g b f,.int .i64 0,.int .i64 0,.int .i64 0,.slice d 0 c,.int .i64 0,.slice i 0 h] 47);go_enter Tryz.func100,Tryz.ntmps100;go_wp2_with fail;go_ret;exact⟨_,rfl,a.o.1,_,rfl,by first|(simp[Jh];done)|(simp_all[Jh];done)⟩
        ·have a:=Z (Ja.new w #[.int .i64 3,.slice g b f,.int .i64 0,.int .i64 j,.int .i64 0,.slice d 0 c,.int .i64 0,.slice i 0 h] 47);go_enter Tryz.func100,Tryz.ntmps100;go_wp2_with fail;go_ret;exact⟨_,rfl,a.o.1,_,rfl,by first|(simp[Jh];done)|(simp_all[Jh];done)⟩
       ·have a:=Z (Ja.new w #[.int .i64 3,.slice g b f,.int .i64 k,.int .i64 j,.int .i64 0,.slice d 0 c,.int .i64 0,.slice i 0 h] 47);go_enter Tryz.func100,Tryz.ntmps100;go_wp2_with fail;go_ret;exact⟨_,rfl,a.o.1,_,rfl,by first|(simp[Jh];done)|(simp_all[Jh];done)⟩
      ·have a:=Z (Ja.new w #[.int .i64 n,.slice g b f,.int .i64 k,.int .i64 j,.int .i64 0,.slice d 0 c,.int .i64 0,.slice i 0 h] 47);go_enter Tryz.func100,Tryz.ntmps100;go_wp2_with fail;go_ret;exact⟨_,rfl,a.o.1,_,rfl,by first|(simp[Jh];done)|(simp_all[Jh];done)⟩
     ·rcases dk n with rfl|rfl|rfl|rfl|⟨t,u,v,x⟩
      ·have a:=Z (Ja.new w #[.int .i64 0,.slice g b f,.int .i64 k,.int .i64 j,.int .i64 0,.slice d 0 c,.int .i64 0,.slice i l h] 47);go_enter Tryz.func100,Tryz.ntmps100;go_wp2_with fail;go_ret;exact⟨_,rfl,a.o.1,_,rfl,by first|(simp[Jh];done)|(simp_all[Jh];done)⟩
      ·have a:=Z (Ja.new w #[.int .i64 1,.slice g b f,.int .i64 k,.int .i64 j,.int .i64 0,.slice d 0 c,.int .i64 0,.slice i l h] 47);go_enter Tryz.func100,Tryz.ntmps100;go_wp2_with fail;go_ret;exact⟨_,rfl,a.o.1,_,rfl,by first|(simp[Jh];done)|(simp_all[Jh];done)⟩
      ·have a:=Z (Ja.new w #[.int .i64 2,.slice g b f,.int .i64 k,.int .i64 j,.int .i64 0,.slice d 0 c,.int .i64 0,.slice i l h] 47);go_enter Tryz.func100,Tryz.ntmps100;go_wp2_with fail;go_ret;exact⟨_,rfl,a.o.1,_,rfl,by first|(simp[Jh];done)|(simp_all[Jh];done)⟩
      ·rcases dz k with rfl|s
       ·rcases dz j with rfl|q
        ·rcases dn b with rfl|p
         ·have a:=Z (Ja.new w #[.int .i64 3,.slice g 0 f,.int .i64 0,.int .i64 0,.int .i64 0,.slice d 0 c,.int .i64 0,.slice i l h] 47);go_enter Tryz.func100,Tryz.ntmps100;go_wp2_with fail;go_ret;exact⟨_,rfl,a.o.1,_,rfl,by first|(simp[Jh];done)|(simp_all[Jh];done)⟩
         ·have a:=Z (Ja.new w #[.int .i64 3,.slice g b f,.int .i64 0,.int .i64 0,.int .i64 0,.slice d 0 c,.int .i64 0,.slice i l h] 47);go_enter Tryz.func100,Tryz.ntmps100;go_wp2_with fail;go_ret;exact⟨_,rfl,a.o.1,_,rfl,by first|(simp[Jh];done)|(simp_all[Jh];done)⟩
        ·have a:=Z (Ja.new w #[.int .i64 3,.slice g b f,.int .i64 0,.int .i64 j,.int .i64 0,.slice d 0 c,.int .i64 0,.slice i l h] 47);go_enter Tryz.func100,Tryz.ntmps100;go_wp2_with fail;go_ret;exact⟨_,rfl,a.o.1,_,rfl,by first|(simp[Jh];done)|(simp_all[Jh];done)⟩
       ·have a:=Z (Ja.new w #[.int .i64 3,.slice g b f,.int .i64 k,.int .i64 j,.int .i64 0,.slice d 0 c,.int .i64 0,.slice i l h] 47);go_enter Tryz.func100,Tryz.ntmps100;go_wp2_with fail;go_ret;exact⟨_,rfl,a.o.1,_,rfl,by first|(simp[Jh];done)|(simp_all[Jh];done)⟩
      ·have a:=Z (Ja.new w #[.int .i64 n,.slice g b f,.int .i64 k,.int .i64 j,.int .i64 0,.slice d 0 c,.int .i64 0,.slice i l h] 47);go_enter Tryz.func100,Tryz.ntmps100;go_wp2_with fail;go_ret;exact⟨_,rfl,a.o.1,_,rfl,by first|(simp[Jh];done)|(simp_all[Jh];done)⟩
    ·rcases dk n with rfl|rfl|rfl|rfl|⟨t,u,v,x⟩
     ·have a:=Z (Ja.new w #[.int .i64 0,.slice g b f,.int .i64 k,.int .i64 j,.int .i64 0,.slice d m c,.int .i64 0,.slice i l h] 47);go_enter Tryz.func100,Tryz.ntmps100;go_wp2_with fail;go_ret;exact⟨_,rfl,a.o.1,_,rfl,by first|(simp[Jh];done)|(simp_all[Jh];done)⟩
     ·have a:=Z (Ja.new w #[.int .i64 1,.slice g b f,.int .i64 k,.int .i64 j,.int .i64 0,.slice d m c,.int .i64 0,.slice i l h] 47);go_enter Tryz.func100,Tryz.ntmps100;go_wp2_with fail;go_ret;exact⟨_,rfl,a.o.1,_,rfl,by first|(simp[Jh];done)|(simp_all[Jh];done)⟩
     ·have a:=Z (Ja.new w #[.int .i64 2,.slice g b f,.int .i64 k,.int .i64 j,.int .i64 0,.slice d m c,.int .i64 0,.slice i l h] 47);go_enter Tryz.func100,Tryz.ntmps100;go_wp2_with fail;go_ret;exact⟨_,rfl,a.o.1,_,rfl,by first|(simp[Jh];done)|(simp_all[Jh];done)⟩
     ·rcases dz k with rfl|s
      ·rcases dz j with rfl|q
       ·rcases dn b with rfl|p
        ·have a:=Z (Ja.new w #[.int .i64 3,.slice g 0 f,.int .i64 0,.int .i64 0,.int .i64 0,.slice d m c,.int .i64 0,.slice i l h] 47);go_enter Tryz.func100,Tryz.ntmps100;go_wp2_with fail;go_ret;exact⟨_,rfl,a.o.1,_,rfl,by first|(simp[Jh];done)|(simp_all[Jh];done)⟩
        ·have a:=Z (Ja.new w #[.int .i64 3,.slice g b f,.int .i64 0,.int .i64 0,.int .i64 0,.slice d m c,.int .i64 0,.slice i l h] 47);go_enter Tryz.func100,Tryz.ntmps100;go_wp2_with fail;go_ret;exact⟨_,rfl,a.o.1,_,rfl,by first|(simp[Jh];done)|(simp_all[Jh];done)⟩
       ·have a:=Z (Ja.new w #[.int .i64 3,.slice g b f,.int .i64 0,.int .i64 j,.int .i64 0,.slice d m c,.int .i64 0,.slice i l h] 47);go_enter Tryz.func100,Tryz.ntmps100;go_wp2_with fail;go_ret;exact⟨_,rfl,a.o.1,_,rfl,by first|(simp[Jh];done)|(simp_all[Jh];done)⟩
      ·have a:=Z (Ja.new w #[.int .i64 3,.slice g b f,.int .i64 k,.int .i64 j,.int .i64 0,.slice d m c,.int .i64 0,.slice i l h] 47);go_enter Tryz.func100,Tryz.ntmps100;go_wp2_with fail;go_ret;exact⟨_,rfl,a.o.1,_,rfl,by first|(simp[Jh];done)|(simp_all[Jh];done)⟩
     ·have a:=Z (Ja.new w #[.int .i64 n,.slice g b f,.int .i64 k,.int .i64 j,.int .i64 0,.slice d m c,.int .i64 0,.slice i l h] 47);go_enter Tryz.func100,Tryz.ntmps100;go_wp2_with fail;go_ret;exact⟨_,rfl,a.o.1,_,rfl,by first|(simp[Jh];done)|(simp_all[Jh];done)⟩
   ·rcases dk n with rfl|rfl|rfl|rfl|⟨t,u,v,x⟩
    ·have a:=Z (Ja.new w #[.int .i64 0,.slice g b f,.int .i64 k,.int .i64 j,.int .i64 0,.slice d m c,.int .i64 row,.slice i l h] 47);go_enter Tryz.func100,Tryz.ntmps100;go_wp2_with fail;go_ret;exact⟨_,rfl,a.o.1,_,rfl,by first|(simp[Jh];done)|(simp_all[Jh];done)⟩
    ·have a:=Z (Ja.new w #[.int .i64 1,.slice g b f,.int .i64 k,.int .i64 j,.int .i64 0,.slice d m c,.int .i64 row,.slice i l h] 47);go_enter Tryz.func100,Tryz.ntmps100;go_wp2_with fail;go_ret;exact⟨_,rfl,a.o.1,_,rfl,by first|(simp[Jh];done)|(simp_all[Jh];done)⟩
    ·have a:=Z (Ja.new w #[.int .i64 2,.slice g b f,.int .i64 k,.int .i64 j,.int .i64 0,.slice d m c,.int .i64 row,.slice i l h] 47);go_enter Tryz.func100,Tryz.ntmps100;go_wp2_with fail;go_ret;exact⟨_,rfl,a.o.1,_,rfl,by first|(simp[Jh];done)|(simp_all[Jh];done)⟩
    ·rcases dz k with rfl|s
     ·rcases dz j with rfl|q
      ·rcases dn b with rfl|p
       ·have a:=Z (Ja.new w #[.int .i64 3,.slice g 0 f,.int .i64 0,.int .i64 0,.int .i64 0,.slice d m c,.int .i64 row,.slice i l h] 47);go_enter Tryz.func100,Tryz.ntmps100;go_wp2_with fail;go_ret;exact⟨_,rfl,a.o.1,_,rfl,by first|(simp[Jh];done)|(simp_all[Jh];done)⟩
       ·have a:=Z (Ja.new w #[.int .i64 3,.slice g b f,.int .i64 0,.int .i64 0,.int .i64 0,.slice d m c,.int .i64 row,.slice i l h] 47);go_enter Tryz.func100,Tryz.ntmps100;go_wp2_with fail;go_ret;exact⟨_,rfl,a.o.1,_,rfl,by first|(simp[Jh];done)|(simp_all[Jh];done)⟩
      ·have a:=Z (Ja.new w #[.int .i64 3,.slice g b f,.int .i64 0,.int .i64 j,.int .i64 0,.slice d m c,.int .i64 row,.slice i l h] 47);go_enter Tryz.func100,Tryz.ntmps100;go_wp2_with fail;go_ret;exact⟨_,rfl,a.o.1,_,rfl,by first|(simp[Jh];done)|(simp_all[Jh];done)⟩
     ·have a:=Z (Ja.new w #[.int .i64 3,.slice g b f,.int .i64 k,.int .i64 j,.int .i64 0,.slice d m c,.int .i64 row,.slice i l h] 47);go_enter Tryz.func100,Tryz.ntmps100;go_wp2_with fail;go_ret;exact⟨_,rfl,a.o.1,_,rfl,by first|(simp[Jh];done)|(simp_all[Jh];done)⟩
    ·have a:=Z (Ja.new w #[.int .i64 n,.slice g b f,.int .i64 k,.int .i64 j,.int .i64 0,.slice d m c,.int .i64 row,.slice i l h] 47);go_enter Tryz.func100,Tryz.ntmps100;go_wp2_with fail;go_ret;exact⟨_,rfl,a.o.1,_,rfl,by first|(simp[Jh];done)|(simp_all[Jh];done)⟩
  ·rcases dk n with rfl|rfl|rfl|rfl|⟨t,u,v,x⟩
   ·have a:=Z (Ja.new w #[.int .i64 0,.slice g b f,.int .i64 k,.int .i64 j,.int .i64 o,.slice d m c,.int .i64 row,.slice i l h] 47);go_enter Tryz.func100,Tryz.ntmps100;go_wp2_with fail;go_ret;exact⟨_,rfl,a.o.1,_,rfl,by first|(simp[Jh];done)|(simp_all[Jh];done)⟩
   ·have a:=Z (Ja.new w #[.int .i64 1,.slice g b f,.int .i64 k,.int .i64 j,.int .i64 o,.slice d m c,.int .i64 row,.slice i l h] 47);go_enter Tryz.func100,Tryz.ntmps100;go_wp2_with fail;go_ret;exact⟨_,rfl,a.o.1,_,rfl,by first|(simp[Jh];done)|(simp_all[Jh];done)⟩
   ·have a:=Z (Ja.new w #[.int .i64 2,.slice g b f,.int .i64 k,.int .i64 j,.int .i64 o,.slice d m c,.int .i64 row,.slice i l h] 47);go_enter Tryz.func100,Tryz.ntmps100;go_wp2_with fail;go_ret;exact⟨_,rfl,a.o.1,_,rfl,by first|(simp[Jh];done)|(simp_all[Jh];done)⟩
   ·rcases dz k with rfl|s
    ·rcases dz j with rfl|q
     ·rcases dn b with rfl|p
      ·have a:=Z (Ja.new w #[.int .i64 3,.slice g 0 f,.int .i64 0,.int .i64 0,.int .i64 o,.slice d m c,.int .i64 row,.slice i l h] 47);go_enter Tryz.func100,Tryz.ntmps100;go_wp2_with fail;go_ret;exact⟨_,rfl,a.o.1,_,rfl,by first|(simp[Jh];done)|(simp_all[Jh];done)⟩
      ·have a:=Z (Ja.new w #[.int .i64 3,.slice g b f,.int .i64 0,.int .i64 0,.int .i64 o,.slice d m c,.int .i64 row,.slice i l h] 47);go_enter Tryz.func100,Tryz.ntmps100;go_wp2_with fail;go_ret;exact⟨_,rfl,a.o.1,_,rfl,by first|(simp[Jh];done)|(simp_all[Jh];done)⟩
     ·have a:=Z (Ja.new w #[.int .i64 3,.slice g b f,.int .i64 0,.int .i64 j,.int .i64 o,.slice d m c,.int .i64 row,.slice i l h] 47);go_enter Tryz.func100,Tryz.ntmps100;go_wp2_with fail;go_ret;exact⟨_,rfl,a.o.1,_,rfl,by first|(simp[Jh];done)|(simp_all[Jh];done)⟩
    ·have a:=Z (Ja.new w #[.int .i64 3,.slice g b f,.int .i64 k,.int .i64 j,.int .i64 o,.slice d m c,.int .i64 row,.slice i l h] 47);go_enter Tryz.func100,Tryz.ntmps100;go_wp2_with fail;go_ret;exact⟨_,rfl,a.o.1,_,rfl,by first|(simp[Jh];done)|(simp_all[Jh];done)⟩
   ·have a:=Z (Ja.new w #[.int .i64 n,.slice g b f,.int .i64 k,.int .i64 j,.int .i64 o,.slice d m c,.int .i64 row,.slice i l h] 47);go_enter Tryz.func100,Tryz.ntmps100;go_wp2_with fail;go_ret;exact⟨_,rfl,a.o.1,_,rfl,by first|(simp[Jh];done)|(simp_all[Jh];done)⟩
end Prf
end Go.Proofs.YtcjgimlcefhhmaaGreatDoor
