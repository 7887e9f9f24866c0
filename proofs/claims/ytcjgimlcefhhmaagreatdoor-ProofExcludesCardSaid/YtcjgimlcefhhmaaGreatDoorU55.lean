/- Texts: RowQExcludes. -/
import Derived.Test.YtcjgimlcefhhmaaGreatDoorU22
import Derived.Test.YtcjgimlcefhhmaaGreatDoorU54
set_option linter.unusedVariables false
set_option linter.unusedSimpArgs false
set_option maxRecDepth 100000
set_option maxHeartbeats 12800000
namespace Go.Proofs.YtcjgimlcefhhmaaGreatDoor.proofExcludes
open Go.ChangeShapes Go.WideShapes Go.ChangeAt Go.RowKit Go.Joins
theorem contract (H:Type)(enc:TypeId × Value→H)(W:World)(base:Nat)(args:Array Value)(ds gs:List (DataW H))(before:List MemPlace)(htab:Tab W)(m:Int)(hm:W.cell? ⟨2,0,none⟩=some (.int .i64 m))
  (hval:∀ (j:Nat) t v,Tryz.f4.params[j]?=some t→args[j]?=some v→Value.okWide Tryz.prog W .any base t v)
  (hW:DataW.Whole enc Tryz.prog Tryz.f4.params.toList Rows.proofExcludesSpec.vars false W args.toList ds gs before)
  (hwt:(DataW.weightsEach Tryz.prog (Tryz.f4.params.toList ++ Rows.proofExcludesSpec.plain.varTypes Tryz.prog) (ds ++ gs)).all (·≤reachBytes)=true):
  Calls Tryz.prog 4 args W fun e W'=>∃ v,e = .returned v∧Rows.proofExcludesSpec.post enc Tryz.prog Tryz.f4 false true false false W args v W':=by
 have hW':=hW
 obtain⟨p,q,hA0,hV,rfl,hfz,hnd⟩:=hW
 have hA:DataW.TrodAll enc Tryz.prog W 0 (fun _=>true) true Tryz.f4.params.toList args.toList ds p:=hA0
 rw[Tryz.params4] at hA hval
 obtain⟨v0,vs0,d0,ds0,p0,q0,hargs,rfl,rfl,h0,r0⟩:=trodAll_cons hA
 obtain⟨v1,vs1,d1,ds1,p1,q1,rfl,rfl,rfl,h1,r1⟩:=trodAll_cons r0
 obtain⟨rfl,rfl,rfl⟩:=trodAll_nil r1
 obtain rfl:args=#[v0,v1]:=by cases args;simp_all
 obtain⟨rfl,rfl⟩:=trodVars_none hV
 have hlt:Prf.Jq 25 d0∧Prf.Jq 26 d1:=by
  rw[Tryz.params4] at hwt
  have hq:Rows.proofExcludesSpec.plain.varTypes Tryz.prog=[]:=rfl
  rw[hq] at hwt
  simp only[List.append_nil,DataW.weightsEach,List.all_append,Bool.and_eq_true] at hwt
  unfold Prf.Jq
  simp[hwt]
 obtain⟨a0,V0,c0,e0,T0,f0,rfl,o1,o2,o3,o4,o5,o6⟩:=Prf.Zv (hval 0 25 v0 rfl rfl) h0 (hlt.1)
 obtain⟨p_1,l1,c_1,rfl,n1,n2,n3⟩:=Prf.Zu (hval 1 26 v1 rfl rfl) h1 (hlt.2)
 clear hA0
 refine(Prf.J3K W a0 e0 p_1 c0 f0 V0.length T0.length l1.length c_1 V0 T0 l1 o1 o2 n1 rfl rfl rfl o3 (fun y hy=>(o4 y hy).1) n3 o5 o6 n2 (fun y hy=>(o4 y hy).2) m hm htab).mono fun e W' ⟨r,he,hg,hr⟩=>?_
 subst he
 subst hr
 have g:Below W.heap.size W W':=hg
 have b0:=Below.trod laidOut (by kernel_rfl) (of_decide_eq_true (by kernel_rfl)) h0 g (fun x hx=>by simpa using hW'.lt x (by first|(simp[hx];done)|(simp at hx;done)|(simp;exact hx)))
 have b1:=Below.trod laidOut (by kernel_rfl) (of_decide_eq_true (by kernel_rfl)) h1 g (fun x hx=>by simpa using hW'.lt x (by first|(simp[hx];done)|(simp at hx;done)|(simp;exact hx)))
 exact⟨_,rfl,_,_,_,[],_,[],hW',trodAll_cons_mk (shut_bool Tryz.underlying4 _) trodAll_mk0,trodAll_cons_mk b0 (trodAll_cons_mk b1 trodAll_mk0),rfl,Below.frame g _,fun h=>Bool.noConfusion h⟩
theorem lifted (os:Os)(started:os.Started)(H:Type)(enc:TypeId × Value→H):
  ReturnsInHanded {} Tryz.checked os 4 .any (fun w args=>(Rows.proofExcludesSpec.pre enc Tryz.prog Tryz.f4 [] false w args∧laidMetH Tryz.prog laidL w)∧sizedMet enc Tryz.prog Tryz.f4 (OpenSpec.ofChange Rows.proofExcludesSpec) false w args)
   (Rows.proofExcludesSpec.post enc Tryz.prog Tryz.f4 false true false false):=by
 refine handed (C:=Tryz.checked) (X:=fun w _=>laidMetH Tryz.prog laidL w) (fun _ _ _ hh h=>h.of_heap hh) own started (by kernel_rfl) Tryz.func4
  (ChangeSpec.witness_shaped (enc:=enc) (C:=Tryz.checked) (os:=os) (X:=fun w _=>laidMetH Tryz.prog laidL w) false (World.laidAll Tryz.prog os laidL) #[.agg #[.slice none 0 0,.slice none 0 0],.slice none 0 0] 8 (World.laidAll_os _ _ _)
   (World.shaped_of_ZipB (by kernel_rfl) (by kernel_rfl)) (by kernel_rfl) (by kernel_rfl) (by kernel_rfl)
   (by rw[MakeChecks.laidMetH_plain _ _ _ (by kernel_rfl)];exact laidMet_laidAll _ (by kernel_rfl) (by kernel_rfl))) ?_
 intro W base args ds gs before hval hW hwt hL hS
 obtain⟨m,hm⟩:=J0x hS
 exact contract H enc W base args ds gs before (J0K hL) m hm hval hW hwt
theorem said:Rows.ProofExcludesSaid:=
 OpenClaim.holds_of_wide 4 Tryz.f4 rfl rfl rfl rfl rfl rfl rfl ⟨rfl,rfl,rfl,rfl,rfl⟩ rfl rfl rfl rfl rfl (by kernel_rfl) Tryz.func4 (by kernel_rfl)
  (of_decide_eq_true (by kernel_rfl)) (by unfold Func.isWrapper;first|(rw[if_pos (by decide +kernel)];kernel_rfl)|(rw[if_neg (by decide +kernel)];exact⟨rfl,rfl⟩))
  (fun os started H enc _=>lifted os started H enc)
theorem proved:Rows.ProofExcludesCardSaid:=
 Claim7.holds_tied_plain_at .later [] [.data, .data, .data, .data, .sentinel, .sentinel, .pinned] true (true, "ee852439bcde034b66adee5329636392fd6f75bee2788c99fc96101d61936c8a") true
  said (fun _ h=>by cases h) (by kernel_rfl) (fun _ h=>by cases h) proofExcludes_row_tie rfl ⟨rfl,rfl⟩ (by kernel_rfl) rfl
  (fun f fn hf hfn=>by
   obtain rfl : f = 4 := Option.some.inj ((show Tryz.prog.funcNamed "exodus/exoduslaw09.ProofExcludes" = some 4 by kernel_rfl).symm.trans hf) |>.symm
   obtain rfl:fn=Tryz.f4:=(Option.some.inj (Tryz.func4.symm.trans hfn)).symm
   exact⟨by kernel_rfl,fun j t ht=>by
    rw[Tryz.params4] at ht
    have h3:t ∈ [25,26]:=by
     have:=List.mem_of_getElem? (l:=[25,26]) (i:=j) (by simpa using ht)
     exact this
    have h4:∀ t ∈ [25,26],Tryz.prog.wantsStandIn t=false:=by decide +kernel
    exact h4 t h3⟩)
  (by kernel_rfl)
end Go.Proofs.YtcjgimlcefhhmaaGreatDoor.proofExcludes
