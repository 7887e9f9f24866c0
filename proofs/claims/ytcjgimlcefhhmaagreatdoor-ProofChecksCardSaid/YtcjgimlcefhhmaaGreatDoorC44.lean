/- Texts: RowQChecks. -/
import Derived.Test.YtcjgimlcefhhmaaGreatDoorC16
import Derived.Test.YtcjgimlcefhhmaaGreatDoorC43
set_option linter.unusedVariables false
set_option linter.unusedSimpArgs false
set_option maxRecDepth 100000
set_option maxHeartbeats 12800000
namespace Go.Proofs.YtcjgimlcefhhmaaGreatDoor.proofChecks
open Go.ChangeShapes Go.WideShapes Go.ChangeAt Go.RowKit Go.Joins
theorem contract (H:Type)(enc:TypeId × Value→H)(W:World)(base:Nat)(args:Array Value)(d o:List (DataW H))(I:List MemPlace)(U:Tab W)(m:Int)(R:W.cell? ⟨2,0,none⟩=some (.int .i64 m))
  (i:∀ (j:Nat) t v,Tryz.f3.params[j]?=some t→args[j]?=some v→Value.okWide Tryz.prog W .any base t v)
  (A:DataW.Whole enc Tryz.prog Tryz.f3.params.toList Rows.proofChecksSpec.vars false W args.toList d o I)
  (b:(DataW.weightsEach Tryz.prog (Tryz.f3.params.toList ++ Rows.proofChecksSpec.plain.varTypes Tryz.prog) (d ++ o)).all (·≤reachBytes)=true):
  Calls Tryz.prog 3 args W fun e c=>∃ v,e = .returned v∧Rows.proofChecksSpec.post enc Tryz.prog Tryz.f3 false true false false W args v c:=by
 have f:=A;obtain⟨p,q,z,O,rfl,a5,a6⟩:=A;have w:DataW.TrodAll enc Tryz.prog W 0 (fun _=>true) true Tryz.f3.params.toList args.toList d p:=z;rw[Tryz.params3] at w i;obtain⟨v0,a7,K,a2,p0,q0,a4,rfl,rfl,s,r0⟩:=trodAll_cons w;obtain⟨E,a8,L,a3,p1,q1,rfl,rfl,rfl,u,r1⟩:=trodAll_cons r0;obtain⟨rfl,rfl,rfl⟩:=trodAll_nil r1;obtain rfl:args=#[v0,E]:=by cases args;simp_all
 obtain⟨rfl,rfl⟩:=trodVars_none O;have B:Prf.Jx 25 K∧Prf.Jx 26 L:=by
  rw[Tryz.params3] at b;have S:Rows.proofChecksSpec.plain.varTypes Tryz.prog=[]:=rfl;rw[S] at b;simp only[List.append_nil,DataW.weightsEach,List.all_append,Bool.and_eq_true] at b;unfold Prf.Jx;simp[b]
 obtain⟨a0,n,c0,M,l,N,rfl,o1,o2,o3,D,o5,o6⟩:=Prf.J4O (i 0 25 v0 rfl rfl) s (B.1);obtain⟨a1,C,J,rfl,V,X,Y⟩:=Prf.J4M (i 1 26 E rfl rfl) u (B.2);clear z;refine(Prf.J41 W a0 M a1 c0 N n.length l.length C.length J n l C o1 o2 V rfl rfl rfl o3 (fun y k=>(D y k).1) Y o5 o6 X (fun y k=>(D y k).2) m R U).mono fun e c ⟨r,P,Q,T⟩=>?_;subst P;subst T;have g:Below W.heap.size W c:=Q;have F:=Below.trod laidOut (by kernel_rfl) (of_decide_eq_true (by kernel_rfl)) s g (fun x a=>by simpa using f.lt x (by first|(simp[a];done)|(simp at a;done)|(simp;exact a)));have G:=Below.trod laidOut (by kernel_rfl) (of_decide_eq_true (by kernel_rfl)) u g (fun x a=>by simpa using f.lt x (by first|(simp[a];done)|(simp at a;done)|(simp;exact a)));exact⟨_,rfl,_,_,_,[],_,[],f,trodAll_cons_mk (shut_bool Tryz.underlying4 _) trodAll_mk0,trodAll_cons_mk F (trodAll_cons_mk G trodAll_mk0),rfl,Below.frame g _,fun h=>Bool.noConfusion h⟩
theorem lifted (os:Os)(n:os.Started)(H:Type)(enc:TypeId × Value→H):
  ReturnsInHanded {} Tryz.checked os 3 .any (fun w args=>(Rows.proofChecksSpec.pre enc Tryz.prog Tryz.f3 [] false w args∧laidMetH Tryz.prog laidL w)∧sizedMet enc Tryz.prog Tryz.f3 (OpenSpec.ofChange Rows.proofChecksSpec) false w args)
   (Rows.proofChecksSpec.post enc Tryz.prog Tryz.f3 false true false false):=by
 refine handed (C:=Tryz.checked) (X:=fun w _=>laidMetH Tryz.prog laidL w) (fun _ _ _ i h=>h.of_heap i) own n (by kernel_rfl) Tryz.func3
  (ChangeSpec.witness_shaped (enc:=enc) (C:=Tryz.checked) (os:=os) (X:=fun w _=>laidMetH Tryz.prog laidL w) false (World.laidAll Tryz.prog os laidL) #[.agg #[.slice none 0 0,.slice none 0 0],.slice none 0 0] 8 (World.laidAll_os _ _ _)
   (World.shaped_of_ZipB (by kernel_rfl) (by kernel_rfl)) (by kernel_rfl) (by kernel_rfl) (by kernel_rfl)
   (by rw[MakeChecks.laidMetH_plain _ _ _ (by kernel_rfl)];exact laidMet_laidAll _ (by kernel_rfl) (by kernel_rfl))) ?_
 intro W base args b c a k g l d f;obtain⟨m,j⟩:=J67 f;exact contract H enc W base args b c a (J6n d) m j k g l
end Go.Proofs.YtcjgimlcefhhmaaGreatDoor.proofChecks
