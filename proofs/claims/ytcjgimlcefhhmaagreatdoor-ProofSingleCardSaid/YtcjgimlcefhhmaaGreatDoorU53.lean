/- Texts: RowQSingle. -/
import Derived.Test.YtcjgimlcefhhmaaGreatDoorU22
import Derived.Test.YtcjgimlcefhhmaaGreatDoorU52
set_option linter.unusedVariables false
set_option linter.unusedSimpArgs false
set_option maxRecDepth 100000
set_option maxHeartbeats 12800000
namespace Go.Proofs.YtcjgimlcefhhmaaGreatDoor.proofSingle
open Go.ChangeShapes Go.WideShapes Go.ChangeAt Go.RowKit Go.Joins
section
variable {H:Type}{enc:TypeId × Value→H}{w:World}{r:Reach}{b0:Nat}{v:Value}{d:DataW H}{q:List MemPlace}
theorem J4w (hv:Value.okWide Tryz.prog w r b0 36 v)(h:DataW.Trod enc Tryz.prog w 0 (fun _=>true) true 36 v d q)(hw:Prf.Jq 36 d):
  ∃ (p:Option Addr) (l:List Int) (c:Nat),v = .slice p l.length c∧Prf.K5 w (.slice p l.length c) l∧l.length≤35184372088832∧∀ y ∈ l,Prf.I64 y:=by
 obtain⟨fuel,h⟩:=h
 obtain⟨p,l,c,h1,h2⟩:=Prf.J4v h hw
 refine⟨p,l,c,Prf.J0A (fun cs e=>?_) h1,h2⟩
 subst e
 simp only[Value.okWide,Tryz.underlying36,Cell.okWide,Cell.ok] at hv
end
theorem contract (H:Type)(enc:TypeId × Value→H)(W:World)(base:Nat)(args:Array Value)(ds gs:List (DataW H))(before:List MemPlace)(htab:Tab W)(m:Int)(hm:W.cell? ⟨2,0,none⟩=some (.int .i64 m))
  (hval:∀ (j:Nat) t v,Tryz.f5.params[j]?=some t→args[j]?=some v→Value.okWide Tryz.prog W .any base t v)
  (hW:DataW.Whole enc Tryz.prog Tryz.f5.params.toList Rows.proofSingleSpec.vars false W args.toList ds gs before)
  (hwt:(DataW.weightsEach Tryz.prog (Tryz.f5.params.toList ++ Rows.proofSingleSpec.plain.varTypes Tryz.prog) (ds ++ gs)).all (·≤reachBytes)=true):
  Calls Tryz.prog 5 args W fun e W'=>∃ v,e = .returned v∧Rows.proofSingleSpec.post enc Tryz.prog Tryz.f5 false true false false W args v W':=by
 have hW':=hW
 obtain⟨p,q,hA0,hV,rfl,hfz,hnd⟩:=hW
 have hA:DataW.TrodAll enc Tryz.prog W 0 (fun _=>true) true Tryz.f5.params.toList args.toList ds p:=hA0
 rw[Tryz.params5] at hA hval
 obtain⟨v0,vs0,d0,ds0,p0,q0,hargs,rfl,rfl,h0,r0⟩:=trodAll_cons hA
 obtain⟨v1,vs1,d1,ds1,p1,q1,rfl,rfl,rfl,h1,r1⟩:=trodAll_cons r0
 obtain⟨v2,vs2,d2,ds2,p2,q2,rfl,rfl,rfl,h2,r2⟩:=trodAll_cons r1
 obtain⟨rfl,rfl,rfl⟩:=trodAll_nil r2
 obtain rfl:args=#[v0,v1,v2]:=by cases args;simp_all
 obtain⟨rfl,rfl⟩:=trodVars_none hV
 have hlt:Prf.Jq 25 d0∧Prf.Jq 26 d1∧Prf.Jq 36 d2:=by
  rw[Tryz.params5] at hwt
  have hq:Rows.proofSingleSpec.plain.varTypes Tryz.prog=[]:=rfl
  rw[hq] at hwt
  simp only[List.append_nil,DataW.weightsEach,List.all_append,Bool.and_eq_true] at hwt
  unfold Prf.Jq
  simp[hwt]
 obtain⟨a0,V0,c0,e0,T0,f0,rfl,o1,o2,o3,o4,o5,o6⟩:=Prf.Zv (hval 0 25 v0 rfl rfl) h0 (hlt.1)
 obtain⟨p_1,l1,c_1,rfl,n1,n2,n3⟩:=Prf.Zu (hval 1 26 v1 rfl rfl) h1 (hlt.2.1)
 obtain⟨p_2,l2,c_2,rfl,x1,x2,x3⟩:=J4w (hval 2 36 v2 rfl rfl) h2 (hlt.2.2)
 clear hA0
 refine(Prf.J3L W a0 e0 p_1 p_2 c0 f0 V0.length T0.length l1.length c_1 l2.length c_2 V0 T0 l1 l2 o1 o2 n1 rfl rfl rfl o3 (fun y hy=>(o4 y hy).1) n3 o5 o6 n2 (fun y hy=>(o4 y hy).2) x1 rfl x3 x2 m hm htab).mono fun e W' ⟨r,he,hg,hr⟩=>?_
 subst he
 subst hr
 have g:Below W.heap.size W W':=hg
 have b0:=Below.trod laidOut (by kernel_rfl) (of_decide_eq_true (by kernel_rfl)) h0 g (fun x hx=>by simpa using hW'.lt x (by first|(simp[hx];done)|(simp at hx;done)|(simp;exact hx)))
 have b1:=Below.trod laidOut (by kernel_rfl) (of_decide_eq_true (by kernel_rfl)) h1 g (fun x hx=>by simpa using hW'.lt x (by first|(simp[hx];done)|(simp at hx;done)|(simp;exact hx)))
 have b2:=Below.trod laidOut (by kernel_rfl) (of_decide_eq_true (by kernel_rfl)) h2 g (fun x hx=>by simpa using hW'.lt x (by first|(simp[hx];done)|(simp at hx;done)|(simp;exact hx)))
 exact⟨_,rfl,_,_,_,[],_,[],hW',trodAll_cons_mk (shut_bool Tryz.underlying4 _) trodAll_mk0,trodAll_cons_mk b0 (trodAll_cons_mk b1 (trodAll_cons_mk b2 trodAll_mk0)),rfl,Below.frame g _,fun h=>Bool.noConfusion h⟩
theorem lifted (os:Os)(started:os.Started)(H:Type)(enc:TypeId × Value→H):
  ReturnsInHanded {} Tryz.checked os 5 .any (fun w args=>(Rows.proofSingleSpec.pre enc Tryz.prog Tryz.f5 [] false w args∧laidMetH Tryz.prog laidL w)∧sizedMet enc Tryz.prog Tryz.f5 (OpenSpec.ofChange Rows.proofSingleSpec) false w args)
   (Rows.proofSingleSpec.post enc Tryz.prog Tryz.f5 false true false false):=by
 refine handed (C:=Tryz.checked) (X:=fun w _=>laidMetH Tryz.prog laidL w) (fun _ _ _ hh h=>h.of_heap hh) own started (by kernel_rfl) Tryz.func5
  (ChangeSpec.witness_shaped (enc:=enc) (C:=Tryz.checked) (os:=os) (X:=fun w _=>laidMetH Tryz.prog laidL w) false (World.laidAll Tryz.prog os laidL) #[.agg #[.slice none 0 0,.slice none 0 0],.slice none 0 0,.slice none 0 0] 8 (World.laidAll_os _ _ _)
   (World.shaped_of_ZipB (by kernel_rfl) (by kernel_rfl)) (by kernel_rfl) (by kernel_rfl) (by kernel_rfl)
   (by rw[MakeChecks.laidMetH_plain _ _ _ (by kernel_rfl)];exact laidMet_laidAll _ (by kernel_rfl) (by kernel_rfl))) ?_
 intro W base args ds gs before hval hW hwt hL hS
 obtain⟨m,hm⟩:=J0x hS
 exact contract H enc W base args ds gs before (J0K hL) m hm hval hW hwt
theorem said:Rows.ProofSingleSaid:=
 OpenClaim.holds_of_wide 5 Tryz.f5 rfl rfl rfl rfl rfl rfl rfl ⟨rfl,rfl,rfl,rfl,rfl⟩ rfl rfl rfl rfl rfl (by kernel_rfl) Tryz.func5 (by kernel_rfl)
  (of_decide_eq_true (by kernel_rfl)) (by unfold Func.isWrapper;first|(rw[if_pos (by decide +kernel)];kernel_rfl)|(rw[if_neg (by decide +kernel)];exact⟨rfl,rfl⟩))
  (fun os started H enc _=>lifted os started H enc)
theorem proved:Rows.ProofSingleCardSaid:=
 Claim7.holds_tied_plain_at .later [] [.data, .data, .data, .data, .sentinel, .sentinel, .pinned] true (true, "ee852439bcde034b66adee5329636392fd6f75bee2788c99fc96101d61936c8a") true
  said (fun _ h=>by cases h) (by kernel_rfl) (fun _ h=>by cases h) proofSingle_row_tie rfl ⟨rfl,rfl⟩ (by kernel_rfl) rfl
  (fun f fn hf hfn=>by
   obtain rfl : f = 5 := Option.some.inj ((show Tryz.prog.funcNamed "exodus/exoduslaw09.ProofSingle" = some 5 by kernel_rfl).symm.trans hf) |>.symm
   obtain rfl:fn=Tryz.f5:=(Option.some.inj (Tryz.func5.symm.trans hfn)).symm
   exact⟨by kernel_rfl,fun j t ht=>by
    rw[Tryz.params5] at ht
    have h3:t ∈ [25,26,36]:=by
     have:=List.mem_of_getElem? (l:=[25,26,36]) (i:=j) (by simpa using ht)
     exact this
    have h4:∀ t ∈ [25,26,36],Tryz.prog.wantsStandIn t=false:=by decide +kernel
    exact h4 t h3⟩)
  (by kernel_rfl)
end Go.Proofs.YtcjgimlcefhhmaaGreatDoor.proofSingle
