/- Texts: CuC CuD. -/
import Derived.Test.YtcjgimlcefhhmaaGreatDoorU28
import Derived.Test.YtcjgimlcefhhmaaGreatDoorU35
set_option linter.unusedVariables false
set_option linter.unusedSimpArgs false
set_option maxRecDepth 100000
set_option maxHeartbeats 12800000
namespace Go.Proofs.YtcjgimlcefhhmaaGreatDoor
namespace Prf
open Go.RowKit Go.Lib
theorem J1I (w:World)(v u:Value)(p:Prg)(c:CutS)(hp:Jv w v p)(hc:Lm w u c 4)(hf:Ln p c)(hk1:c.kind=1)(hcv:c.vars.length≤1000)(hk:Jr p)(hw:Whole p)(hn:p.vars.length≤10):
  Calls Tryz.prog 206 #[v,u] w (Ret w (Qa p c w.heap.size)):=by
 have HK:=ξ hk
 have HW:=ξ hw
 have HP:=ξ hp
 have HF:=ξ hf
 have hm:=hk.2.1
 obtain⟨-,-,hr0,hr1,hne,-,hbi⟩:c.kind=1∧c.mult=[]∧0≤c.row∧c.row < (p.rows.length:Int)∧c.vars≠[]∧IncI (-1) c.vars∧∀ v ∈ c.vars,Kw p v:=by
  rcases hf with h|h
  ·have:=h.1;omega
  ·exact h
 obtain⟨rk,hrk⟩:∃ n:Nat,c.row=(n:Int):=⟨c.row.toNat,by omega⟩
 have hrl:rk < p.rows.length:=by omega
 have hrl':(rk:Int) < (p.rows.length:Int):=by omega
 have HBI:=ξ hbi
 have HNE:=ξ hne
 have HK1:=ξ hk1
 have HRK:=ξ hrk
 obtain⟨pm,nm,cm,pv,nv,cv,rfl,hmu,hva,rfl,rfl⟩:=hc.parts
 have HVA:=ξ hva
 clear hc hmu hva hk hw hf hbi hne hk1 hr0 hr1 hrk
 obtain⟨va,vc,vb,vd,rfl,hv,hr⟩:=hp
 have HR:=ξ hr
 have B0:=Ja.new w #[.slice va p.vars.length vc,.slice vb p.rows.length vd] 25
 have B1:=Ja.new (w.alloc (.cells #[.slice va p.vars.length vc,.slice vb p.rows.length vd] 25)) #[.int .i64 c.kind,.slice pm c.mult.length cm,.int .i64 c.row,.slice pv c.vars.length cv] 45
 have B2:=Ja.new ((w.alloc (.cells #[.slice va p.vars.length vc,.slice vb p.rows.length vd] 25)).alloc (.cells #[.int .i64 c.kind,.slice pm c.mult.length cm,.int .i64 c.row,.slice pv c.vars.length cv] 45)) rowZ 42
 simp only[World.size_alloc] at B1 B2
 unfold rowZ at B2
 have HB:=ξ (show _∧Ja _ _ #[.slice va p.vars.length vc,.slice vb p.rows.length vd]∧Ja _ _ #[.int .i64 c.kind,.slice pm c.mult.length cm,.int .i64 c.row,.slice pv c.vars.length cv]∧Ja _ _ #[.string ⟨#[]⟩,.int .i64 0,.int .i64 0,.slice none 0 0,.int .i64 0] from⟨B0.1.trans (B1.1.trans B2.1),B0.2.grow (B1.1.trans B2.1),B1.2.grow B2.1,B2.2⟩)
 clear hv hr B0 B1 B2
 unfold prgV at HP ⊢
 go_enter Tryz.func206,Tryz.ntmps206
 go_wp2_with fail
 generalize hb4:w.heap.size+1+1=b4 at HB ⊢
 generalize hbc:w.heap.size+1=bc at HB ⊢
 generalize hbp:w.heap.size=bp at HB ⊢
 generalize ((w.alloc _).alloc _).alloc _=W at HB ⊢
 have HB4:=ξ (show w.heap.size≤b4 from by omega)
 have HN4:=ξ (show bc≠b4 from by omega)
 clear hb4 hbc hbp
 obtain⟨b,o,x,rfl,hx,hin,hcx⟩:=HR.out.at hrl
 have HX:=ξ hx
 have HIN:=ξ hin
 have c0:=fun w' g=>(hcx w' (HB.out.1.trans g)).1
 have c1:=fun w' g=>(hcx w' (HB.out.1.trans g)).2.1
 have c2:=fun w' g=>(hcx w' (HB.out.1.trans g)).2.2.1
 have c3:=fun w' g=>(hcx w' (HB.out.1.trans g)).2.2.2.1
 have c4:=fun w' g=>(hcx w' (HB.out.1.trans g)).2.2.2.2
 have y0:=HB.out.2.1.c 0 rfl
 have y1:=HB.out.2.1.c 1 rfl
 have x2:∀ w',Gr W w'→w'.cell? ⟨bc,2,none⟩=some (.int .i64 (rk:Int)):=by rw[← HRK.out];exact HB.out.2.2.1.c 2 rfl
 have x3:=HB.out.2.2.1.c 3 rfl
 have g0:Gr W W.drew:=(Gr.refl _).drew
 have GZ:=ξ g0
 clear hx hin hcx
 refine Jp [(0,true),(1,true),(2,true),(3,true),(4,true),(5,true),(6,true),(7,true),(8,true),(9,false),(10,true)] (by kernel_rfl) (by kernel_rfl) rfl (by kernel_rfl) (fun _ _ d _ _ h=>by cases d<;>exact h) ?_
 repeat(refine Jf (v:=?_) g0 rfl rfl (fun w' hg=>?_) (fun K hK=>?_);rotate_left;(go_simp;rfl);go_simp;refine hK _ _ ?_;clear hK K)
 refine Jd (args:=?_) rfl rfl rfl rfl rfl rfl (by kernel_rfl) (by kernel_rfl) ?_ (fun K hK=>?_)
 rotate_left
 ·go_simp;rfl
 refine(J1J _ _ p x c.vars pv cv (HP.out.grow (HB.out.1.trans GZ.out)) (SlL.grow HIN.out (HB.out.1.trans GZ.out)) (HK.out.2.2.2 _ (List.mem_of_getElem? HX.out)) HK.out HW.out hn HBI.out (HVA.out.grow (HB.out.1.trans GZ.out)) HNE.out (by omega)).mono ?_
 rintro _ w3 ⟨r3,rfl,g3,h3⟩
 refine⟨_,rfl,g3,?_⟩
 go_simp
 refine hK _ _ ?_
 clear hK K
 have GZ:=ξ (GZ.out.trans g3)
 have g4:=GZ.out
 rcases h3.cases with⟨rfl,k3⟩|⟨rfl,k3⟩
 rotate_left
 ·have H:=ξ (show ∀ rs,¬ Kz p c rs from fun rt h=>by
   rcases h.2 with⟨h1,_⟩|⟨_,⟨z,hz,hc⟩,_⟩
   ·have:=HK1.out;omega
   ·have e:c.row.toNat=rk:=by have:=HRK.out;omega
    rw[e,HX.out] at hz
    obtain rfl:=Option.some.inj hz
    exact k3 hc)
  repeat(refine Jf (v:=?_) g4 rfl rfl (fun w' hg=>?_) (fun K hK=>?_);rotate_left;(go_simp;rfl);go_simp;refine hK _ _ ?_;clear hK K)
  refine Ji ?_
  have G:=ξ (HB.out.1.trans GZ.out)
  have T4:=ξ (HB.out.2.2.2.grow GZ.out)
  clear h3 k3 g3 g0 g4 c0 c1 c2 c3 c4 y0 y1 x2 x3
  have c0:=T4.out.at 0 rfl
  have c1:=T4.out.at 1 rfl
  have c2:=T4.out.at 2 rfl
  have c3:=T4.out.at 3 rfl
  have c4:=T4.out.at 4 rfl
  have f0:=Ja.f (T4.out) 0
  have f1:=Ja.f (T4.out) 1
  have f2:=Ja.f (T4.out) 2
  have f3:=Ja.f (T4.out) 3
  have f4:=Ja.f (T4.out) 4
  have HXX:=ξ (fill5 (.string ⟨#[]⟩) (.int .i64 0) (.int .i64 0) (.slice none 0 0) (.int .i64 0) (T4.out) (G.out) HB4.out)
  go_wp2_with fail
  try rw[Exit.noGoto_ret]
  generalize ((((w3.setCell _ _).setCell _ _).setCell _ _).setCell _ _).setCell _ _=W5 at HXX ⊢
  clear c0 c1 c2 c3 c4 f0 f1 f2 f3 f4
  have z0:=HXX.out.2.1.at 0 rfl
  have z1:=HXX.out.2.1.at 1 rfl
  have z2:=HXX.out.2.1.at 2 rfl
  have z3:=HXX.out.2.1.at 3 rfl
  have z4:=HXX.out.2.1.at 4 rfl
  refine bodyPost_ret (by simp[results,Tryz.results206,go_sem,z0,z1,z2,z3,z4];rfl) rfl ?_
  exact⟨_,rfl,HXX.out.1,.inr ⟨H.out,13,by first|decide|exact HEE.out,rfl⟩⟩
 have HD:=ξ (show Kz p c (coverRow c.vars) from⟨HF.out,.inr ⟨HK1.out,⟨x.s,by rw[show c.row.toNat=rk from by have:=HRK.out;omega];exact HX.out,k3⟩,rfl⟩⟩)
 repeat(refine Jf (v:=?_) g4 rfl rfl (fun w' hg=>?_) (fun K hK=>?_);rotate_left;(go_simp;rfl);go_simp;refine hK _ _ ?_;clear hK K)
 refine Ji ?_
 have G:=ξ (HB.out.1.trans GZ.out)
 have TC:=ξ (HB.out.2.2.1.grow GZ.out)
 have T4:=ξ (HB.out.2.2.2.grow GZ.out)
 clear h3 k3 g3 g0 g4 c0 c1 c2 c3 c4 y0 y1 x2 x3 HB GZ
 have x3:=TC.out.at 3 rfl
 have hl1:IntKind.i64.wrap ((c.vars.length:Int) - 1)=(c.vars.length:Int) - 1:=by rw[IntKind.wrap_i64];omega
 have B6:=Ja.new w3 #[.string ⟨cutName.toArray⟩,.int .i64 0,.int .i64 0,.slice none 0 0,.int .i64 ((c.vars.length:Int) - 1)] 42
 have HS0:=ξ (show Mq w _ bc b4 w3.heap.size #[.int .i64 c.kind,.slice pm c.mult.length cm,.int .i64 c.row,.slice pv c.vars.length cv] ((c.vars.length:Int) - 1) (.slice none 0 0) ((c.vars.take 0).map fun v=>(⟨v,1⟩:Jg)) from
  ⟨G.out.trans B6.1,TC.out.grow B6.1,T4.out.grow B6.1,B6.2,Jz.nil _ _,fun b h=>by cases h⟩)
 have HN6:=ξ (show w.heap.size≤w3.heap.size∧bc≠w3.heap.size∧b4≠w3.heap.size from⟨G.out.size,by have:=TC.out.lt;omega,by have:=T4.out.lt;omega⟩)
 have x3':=HS0.out.tc.at 3 rfl
 unfold cutName at HS0 x3'
 clear B6 G TC T4
 go_wp2_with fail
 clear x3 x3'
 generalize w3.heap.size=b6 at HS0 HN6 ⊢
 generalize w3.alloc _=W4 at HS0 ⊢
 go_loopw [29] (fun i w9=>∃ (k:Nat) (tv:Value),i = .int .i64 (k:Int)∧k≤c.vars.length∧Mq w w9 bc b4 b6 #[.int .i64 c.kind,.slice pm c.mult.length cm,.int .i64 c.row,.slice pv c.vars.length cv] ((c.vars.length:Int) - 1) tv ((c.vars.take k).map fun v=>(⟨v,1⟩:Jg))) (fun i _=>c.vars.length - (RowKit.intOf i).toNat)
 case atStart=>exact⟨0,_,rfl,Nat.zero_le _,HS0.out⟩
 case round=>
  clear HS0
  obtain⟨k,tv,rfl,hk,hst⟩:=hrel
  have HS:=ξ hst
  clear hst
  by_cases hlt:k < c.vars.length
  ·have hlt':(k:Int) < (c.vars.length:Int):=by omega
   have hk1:IntKind.i64.wrap ((k:Int)+1)=(k:Int)+1:=by rw[IntKind.wrap_i64];omega
   obtain⟨b2,o2,z,rfl,hz,hcz⟩:=L2 HVA.out rfl hlt
   have HTK:=ξ (show(c.vars.take (k+1)).map (fun v=>(⟨v,1⟩:Jg))=((c.vars.take k).map fun v=>(⟨v,1⟩:Jg)) ++ [⟨z,1⟩] from by rw[List.take_add_one,hz];simp)
   have z0:=hcz wr HS.out.g
   have c6:=HS.out.t6.at 3 rfl
   have BS:=SlL.new (enc:=encTerm) (sz:=2) wr 75 My [⟨z,1⟩] #[.int .i64 z,.int .i64 1] 1 rfl rfl (by decide)
   have HS:=ξ (HS.out.grow BS.1)
   have HBS:=ξ BS.2
   clear hz hcz BS
   go_wp2_with (at_builtin;refine Hold.hold ?_)
   clear z0 c6
   generalize wr.heap.size=bs at HBS ⊢
   generalize wr.alloc _=w6 at HS HBS ⊢
   refine Hold.go ?_
   refine J1a rfl _ _ rfl w.heap.size tv _ ((c.vars.take k).map fun v=>(⟨v,1⟩:Jg)) ⟨z,1⟩ rfl HS.out.tw rfl HBS.out (by simp;omega) HS.out.g.size ?_
   intro tv' w7 h1 h2 h3 h4
   obtain⟨⟨q1,q2⟩,q3⟩:=HS.out.putT HN6.out.1 HN6.out.2 h1 h2 h4
   obtain⟨pt,ct,hpt⟩:=M2 h1
   obtain⟨ln,hln⟩:∃ n,(((c.vars.take k).map fun v=>(⟨v,1⟩:Jg)) ++ ([⟨z,1⟩]:List Jg)).length=n:=⟨_,rfl⟩
   rw[hln] at hpt
   subst hpt
   obtain⟨pt0,ct0,hpt0⟩:=M2 HS.out.tw
   obtain⟨ln0,hln0⟩:∃ n,((c.vars.take k).map fun v=>(⟨v,1⟩:Jg)).length=n:=⟨_,rfl⟩
   rw[hln0] at hpt0
   subst hpt0
   have HNX:=ξ q3
   clear h1 h2 h3 h4 q3 hln hln0
   go_wp2_with fail
   clear q1 q2
   generalize w7.setCell _ _=W7 at HNX ⊢
   refine⟨⟨k+1,_,by go_num,by omega,by rw[HTK.out];exact HNX.out⟩,by simp[RowKit.intOf];omega⟩
  ·obtain rfl:k=c.vars.length:=by omega
   obtain⟨ts,hts⟩:∃ ts,(c.vars.map fun v=>(⟨v,1⟩:Jg))=ts:=⟨_,rfl⟩
   have HTS:=ξ hts
   have HS:=ξ (show Mq w wr bc b4 b6 #[.int .i64 c.kind,.slice pm c.mult.length cm,.int .i64 c.row,.slice pv c.vars.length cv] ((c.vars.length:Int) - 1) tv ts from by have:=HS.out;rwa [List.take_length,hts] at this)
   clear hts
   obtain⟨pt,ct,rfl⟩:=M2 HS.out.tw
   have y0:=HS.out.t6.at 0 rfl
   have y1:=HS.out.t6.at 1 rfl
   have y2:=HS.out.t6.at 2 rfl
   have y3:=HS.out.t6.at 3 rfl
   have y4:=HS.out.t6.at 4 rfl
   have c0:=HS.out.t4.at 0 rfl
   have c1:=HS.out.t4.at 1 rfl
   have c2:=HS.out.t4.at 2 rfl
   have c3:=HS.out.t4.at 3 rfl
   have c4:=HS.out.t4.at 4 rfl
   have f0:=Ja.f HS.out.t4 0
   have f1:=Ja.f HS.out.t4 1
   have f2:=Ja.f HS.out.t4 2
   have f3:=Ja.f HS.out.t4 3
   have f4:=Ja.f HS.out.t4 4
   have hne1:¬ b4=b6:=HN6.out.2.2
   have hne2:¬ b6=b4:=fun e=>hne1 e.symm
   have hf:=fill5 (.string ⟨cutName.toArray⟩) (.int .i64 0) (.int .i64 0) (.slice pt ts.length ct) (.int .i64 ((c.vars.length:Int) - 1)) HS.out.t4 HS.out.g HB4.out
   have HFX:=ξ (show _∧_∧Jz _ w.heap.size _ _ from⟨hf.1,hf.2.1,HS.out.tw.same hf.2.2 (by simp[World.setCell]) (Mh HS.out.tw fun g hg=>(HS.out.ne g hg).2.1) rfl rfl rfl⟩)
   clear hf
   go_wp2_with fail
   clear c0 c1 c2 c3 c4 f0 f1 f2 f3 f4 y0 y1 y2 y3 y4
   try rw[Exit.noGoto_ret]
   generalize ((((wr.setCell _ _).setCell _ _).setCell _ _).setCell _ _).setCell _ _=W6 at HFX ⊢
   have z0:=HFX.out.2.1.at 0 rfl
   have z1:=HFX.out.2.1.at 1 rfl
   have z2:=HFX.out.2.1.at 2 rfl
   have z3:=HFX.out.2.1.at 3 rfl
   have z4:=HFX.out.2.1.at 4 rfl
   refine bodyPost_ret (by simp[results,Tryz.results206,go_sem,z0,z1,z2,z3,z4];rfl) rfl ?_
   exact⟨_,rfl,HFX.out.1,.inl ⟨coverRow c.vars,⟨cutName,0,0,pt,ct,ts,(c.vars.length:Int) - 1⟩,HD.out,rfl,by unfold coverRow;rw[HTS.out];rfl,HFX.out.2.2⟩⟩
theorem Vp {x:Rat}{L:Nat}(h:Sz L x):(ceilQ x).natAbs < BB ^ (L+1):=Kl (Rz h)
theorem Ys {z:Int}(h:In z):z.natAbs < BB ^ 2:=by
 have:=Ls h
 have e:BB ^ 2=18446744073709551616:=by decide
 rw[e];omega
theorem Y3 {a b:Int}{K M:Nat}(ha:a.natAbs < BB ^ K)(hb:b.natAbs < BB ^ M):(a * b).natAbs < BB ^ (K+M):=by
 rw[Int.natAbs_mul,Nat.pow_add]
 exact Nat.mul_lt_mul'' ha hb
theorem Yy {vs:List VarM}{u:Nat→Int}{K:Nat}(hv:∀ v ∈ vs,Lz v):∀ k,(∀ j,j < k→(u j).natAbs < BB ^ K)→(moreZ vs u k).natAbs≤k * BB ^ (K+2)
 | 0,_=>by simp[moreZ]
 | k+1,h=>by
  have ih:=Yy hv k fun j hj=>h j (by omega)
  show(moreZ vs u k+_:Int).natAbs≤_
  rw[Nat.succ_mul]
  cases hx:vs[k]? with
  | none=>simp only[Int.add_zero];omega
  | some v=>
   have h2:=Y3 (h k (by omega)) (Ys (hv v (List.mem_of_getElem? hx)).1)
   have h3:=Int.natAbs_add_le (moreZ vs u k) (u k * v.lo)
   simp only[]
   omega
theorem Yz {vs:List VarM}{u:Nat→Int}{k:Nat}(hv:∀ v ∈ vs,Lz v)(h:∀ j,j < k→(u j).natAbs < BB ^ 81)(hk:k≤10):Sz 84 ((moreZ vs u k:Int):Rat):=by
 refine Nq (Kf ?_) (by decide)
 have h1:=Yy hv k h
 have h2:=Nat.mul_le_mul_right (BB ^ (81+2)) hk
 have e:BB ^ 84=BB ^ (81+2) * BB:=by rw[← Nat.pow_succ]
 have h3:0 < BB ^ (81+2):=Nat.pow_pos (by decide)
 have h4:10 * BB ^ (81+2) < BB ^ (81+2) * BB:=by
  rw[Nat.mul_comm]
  exact Nat.mul_lt_mul_of_pos_left (by decide) h3
 rw[e]
 omega
structure RpSt (w W:World)(bp b4 bo b7 b8 b9:Nat)(u0 u1:Value)(n:Nat)(A:Nat→Rat)(s:Rat)(tv:Value)(ts:List Jg)(mz:Rat):Prop where
 g:Gr w W
 tp:Ja W bp #[u0,u1]
 t4:Ja W b4 rowZ
 ro:Jo W bo n A 80
 t7:J6 W b7 s
 t8:Ja W b8 (rowT tv)
 tw:Jz W w.heap.size tv ts
 t9:J6 W b9 mz
 ne:∀ b,tv.ownBlock=some b→b≠bp∧b≠b4∧b≠bo∧b≠b7∧b≠b8∧b≠b9
structure RpNe (w:World)(bp b4 bo b7 b8 b9:Nat):Prop where
 n4:w.heap.size≤b4
 n7:w.heap.size≤b7
 n8:w.heap.size≤b8
 n9:w.heap.size≤b9
 p:bp≠b7∧bp≠b8∧bp≠b9∧bp≠b4
 x4:b4≠bo∧b4≠b7∧b4≠b8∧b4≠b9
 xo:bo≠b7∧bo≠b8∧bo≠b9
 x7:b7≠b8∧b7≠b9
 x8:b8≠b9
section
variable {w W:World}{bp b4 bo b7 b8 b9:Nat}{u0 u1:Value}{n:Nat}{A:Nat→Rat}{s:Rat}{tv:Value}{ts:List Jg}{mz:Rat}
theorem RpSt.grow {W':World}(h:RpSt w W bp b4 bo b7 b8 b9 u0 u1 n A s tv ts mz)(g:Gr W W'):RpSt w W' bp b4 bo b7 b8 b9 u0 u1 n A s tv ts mz:=
 ⟨h.g.trans g,h.tp.grow g,h.t4.grow g,h.ro.grow g,h.t7.grow g,h.t8.grow g,h.tw.grow g,h.t9.grow g,h.ne⟩
theorem RpSt.putB {s':Rat}{t:RatM}(h:RpSt w W bp b4 bo b7 b8 b9 u0 u1 n A s tv ts mz)(hn:RpNe w bp b4 bo b7 b8 b9)(ht:RatC W t.v s'):
  RpSt w (set3 W b7 (.bool t.n) (.slice t.p t.k t.c) (.slice t.q t.m t.e)) bp b4 bo b7 b8 b9 u0 u1 n A s' tv ts mz:=by
 have hu:=upd3 W b7 (.bool t.n) (.slice t.p t.k t.c) (.slice t.q t.m t.e)
 exact⟨Ko h.g hn.n7 _ _ _,h.tp.upd hu hn.p.1,h.t4.upd hu hn.x4.2.1,h.ro.upd h.t7.noInt hu hn.xo.1,h.t7.put ht,h.t8.upd hu hn.x7.1.symm,
  h.tw.same hu (by simp[set3,World.setCell]) (Mh h.tw fun g hg=>(h.ne g hg).2.2.2.1) rfl rfl rfl,h.t9.upd h.t7.noInt hu hn.x7.2.symm,h.ne⟩
theorem RpSt.putM {mz':Rat}{t:RatM}(h:RpSt w W bp b4 bo b7 b8 b9 u0 u1 n A s tv ts mz)(hn:RpNe w bp b4 bo b7 b8 b9)(ht:RatC W t.v mz'):
  RpSt w (set3 W b9 (.bool t.n) (.slice t.p t.k t.c) (.slice t.q t.m t.e)) bp b4 bo b7 b8 b9 u0 u1 n A s tv ts mz':=by
 have hu:=upd3 W b9 (.bool t.n) (.slice t.p t.k t.c) (.slice t.q t.m t.e)
 exact⟨Ko h.g hn.n9 _ _ _,h.tp.upd hu hn.p.2.2.1,h.t4.upd hu hn.x4.2.2.2,h.ro.upd h.t9.noInt hu hn.xo.2.2,h.t7.upd h.t9.noInt hu hn.x7.2,h.t8.upd hu hn.x8,
  h.tw.same hu (by simp[set3,World.setCell]) (Mh h.tw fun g hg=>(h.ne g hg).2.2.2.2.2) rfl rfl rfl,h.t9.put ht,h.ne⟩
theorem RpSt.setX {b:Nat}{x y z:Value}(h:RpSt w W bp b4 bo b7 b8 b9 u0 u1 n A s tv ts mz)(hn:Ki W b)(hb:w.heap.size≤b)(h1:bp≠b∧b4≠b∧bo≠b∧b7≠b∧b8≠b∧b9≠b)(h2:tv.ownBlock≠some b):
  RpSt w (set3 W b x y z) bp b4 bo b7 b8 b9 u0 u1 n A s tv ts mz:=by
 have hu:=upd3 W b x y z
 exact⟨Ko h.g hb _ _ _,h.tp.upd hu h1.1,h.t4.upd hu h1.2.1,h.ro.upd hn hu h1.2.2.1,h.t7.upd hn hu h1.2.2.2.1,h.t8.upd hu h1.2.2.2.2.1,
  h.tw.same hu (by simp[set3,World.setCell]) h2 rfl rfl rfl,h.t9.upd hn hu h1.2.2.2.2.2,h.ne⟩
theorem RpSt.apart (h:RpSt w W bp b4 bo b7 b8 b9 u0 u1 n A s tv ts mz){b:Nat}(hb:W.heap.size≤b):(bp≠b∧b4≠b∧bo≠b∧b7≠b∧b8≠b∧b9≠b)∧tv.ownBlock≠some b∧w.heap.size≤b:=by
 have l1:=h.tp.lt
 have l2:=h.t4.lt
 have l3:=h.ro.lt
 have l4:=h.t7.lt
 have l5:=h.t8.lt
 have l6:=h.t9.lt
 have l7:=h.g.size
 refine⟨⟨by omega,by omega,by omega,by omega,by omega,by omega⟩,fun e=>?_,by omega⟩
 have:=(World.ownsRow.lt h.tw.1 b e).2
 omega
theorem J6.dk {w w':World}{b:Nat}{s:Rat}(h:J6 w b s)(d:Dk w w')(hb:w'.heap[b]?=w.heap[b]?):J6 w' b s:=by
 obtain⟨t,⟨ty,h1⟩,h2⟩:=h
 exact⟨t,⟨ty,by rw[hb];exact h1⟩,Ot h2 d⟩
theorem RpSt.putT {W1:World}{tv':Value}{t:Jg}(h:RpSt w W bp b4 bo b7 b8 b9 u0 u1 n A s tv ts mz)(hn:RpNe w bp b4 bo b7 b8 b9)(h1:Jz W1 w.heap.size tv' (ts ++ [t]))(hg:W.grownBy W1 tv.ownBlock)(hd:Dk W W1)
  (hb:tv'.ownBlock=tv.ownBlock∨tv'.ownBlock=some W.heap.size):
  (W1.cell? ⟨b8,3,none⟩=some tv∧W1.frozen? ⟨b8,3,none⟩=false)∧RpSt w (W1.setCell ⟨b8,3,none⟩ tv') bp b4 bo b7 b8 b9 u0 u1 n A s tv' (ts ++ [t]) mz:=by
 have keepB:∀ b,b < W.heap.size→(∀ g,tv.ownBlock=some g→g≠b)→W1.heap[b]?=W.heap[b]?:=fun b hc hne=>hg.block b hc (fun e=>hne b e.symm rfl)
 have k7:=keepB b7 h.t7.lt fun g hg=>(h.ne g hg).2.2.2.1
 have k9:=keepB b9 h.t9.lt fun g hg=>(h.ne g hg).2.2.2.2.2
 have ko:=keepB bo h.ro.lt fun g hg=>(h.ne g hg).2.2.1
 have k8:=keepB b8 h.t8.lt fun g hg=>(h.ne g hg).2.2.2.2.1
 have c8:=Kt h.t8 k8
 have hG1:Gr w W1:=OwnL.gr h.tw.1 h.g hg
 have hu:=J8 W1 b8 3 tv'
 obtain⟨pt,ct,htv⟩:=M2 h.tw
 have hnu:NoU W1 b8:=NoU.of c8 (J0o tv fun z e=>by rw[htv] at e;cases e)
 have hd2:=Dk.upd hnu hu
 have hsz:=hg.size
 have hne:∀ g,tv'.ownBlock=some g→g≠bp∧g≠b4∧g≠bo∧g≠b7∧g≠b8∧g≠b9:=fun g hg'=>by
  rcases hb with hb|hb
  ·exact h.ne g (hb ▸ hg')
  ·rw[hb] at hg'
   obtain rfl:=Option.some.inj hg'
   have l1:=h.tp.lt
   have l2:=h.t4.lt
   have l3:=h.ro.lt
   have l4:=h.t7.lt
   have l5:=h.t8.lt
   have l6:=h.t9.lt
   exact⟨by omega,by omega,by omega,by omega,by omega,by omega⟩
 refine⟨⟨c8.at 3 rfl,c8.f 3⟩,⟨Gr.set hG1 (by have:=hn.n8;omega) _,?_,?_,?_,?_,?_,?_,?_,hne⟩⟩
 ·exact(Kt h.tp (keepB bp h.tp.lt fun g hg=>(h.ne g hg).1)).upd hu hn.p.2.1
 ·exact(Kt h.t4 (keepB b4 h.t4.lt fun g hg=>(h.ne g hg).2.1)).upd hu hn.x4.2.2.1
 ·exact Q1 (Q1 h.ro hd ko) hd2 (hu bo hn.xo.2.1)
 ·exact(h.t7.dk hd k7).dk hd2 (hu b7 hn.x7.1)
 ·have:=c8.set 3 tv'
  simpa[rowT] using this
 ·exact h1.same hu (by simp[World.setCell]) (Mh h1 fun g hg=>(hne g hg).2.2.2.2.1) rfl rfl rfl
 ·exact(h.t9.dk hd k9).dk hd2 (hu b9 hn.x8.symm)
theorem J5N {pt:Option Addr}{ct:Nat}(h:RpSt w W bp b4 bo b7 b8 b9 u0 u1 n A s (.slice pt ts.length ct) ts mz)(hn:RpNe w bp b4 bo b7 b8 b9)(z:Int):
  Gr w (W.setCell ⟨b8,4,none⟩ (.int .i64 z))∧Ja (W.setCell ⟨b8,4,none⟩ (.int .i64 z)) b8 #[.string ⟨cutName.toArray⟩,.int .i64 0,.int .i64 1,.slice pt ts.length ct,.int .i64 z]∧Ja (W.setCell ⟨b8,4,none⟩ (.int .i64 z)) b4 rowZ∧
  Jz (W.setCell ⟨b8,4,none⟩ (.int .i64 z)) w.heap.size (.slice pt ts.length ct) ts∧∀ g,(Value.slice pt ts.length ct).ownBlock=some g→g≠b4:=by
 have hu:=J8 W b8 4 (.int .i64 z)
 refine⟨Gr.set h.g (by have:=hn.n8;omega) _,?_,h.t4.upd hu hn.x4.2.2.1,h.tw.same hu (by simp[World.setCell]) (Mh h.tw fun g hg=>(h.ne g hg).2.2.2.2.1) rfl rfl rfl,fun g hg=>(h.ne g hg).2.1⟩
 have:=h.t8.set 4 (.int .i64 z)
 simpa[rowT] using this
end
def Vc (w W:World)(bp b4 bo b7 b8 b9:Nat)(u0 u1:Value)(p:Prg)(y:List Rat)(k:Nat)(v:Value):Prop:=
 ∃ (sm:Bool) (tv:Value) (ts:List Jg),v = .bool sm∧(sm=true↔∀ j,j < k→In (ceilQ (combA p y j)))∧(sm=true→ts=cutTerms (combA p y) k)∧ts.length≤k∧
  RpSt w W bp b4 bo b7 b8 b9 u0 u1 p.vars.length (combA p y) (combB p y - sumQ (loT p.vars (combA p y)) k) tv ts ((moreZ p.vars (fun j=>ceilQ (combA p y j)) k:Int):Rat)
theorem Vg {P:Nat→Prop}{k:Nat}:(∀ j,j < k+1→P j)↔(∀ j,j < k→P j)∧P k:=
 ⟨fun h=>⟨fun j hj=>h j (by omega),h k (by omega)⟩,fun h j hj=>by
  rcases Nat.lt_or_ge j k with h1|h1
  ·exact h.1 j h1
  ·obtain rfl:j=k:=by omega
   exact h.2⟩
theorem J1s {a b:Bool}{P Q:Prop}(h:a=true↔P)(k:b=true↔Q):(a && b)=true↔P∧Q:=by
 rw[Bool.and_eq_true,h,k]
theorem J1O (w:World)(v u:Value)(p:Prg)(c:CutS)(hp:Jv w v p)(hc:Lm w u c 4)(hcm:Calm p c.mult)(hk:Jr p)(hw:Whole p)(hn:p.vars.length≤10):
  Calls Tryz.prog 205 #[v,u] w (Ret w (Rr p c.mult w.heap.size)):=by
 have HC:=ξ hcm
 have HK:=ξ hk
 have HW:=ξ hw
 have HP:=ξ hp
 have hm:=hk.2.1
 obtain⟨pm,nm,cm,pv,nv,cv,rfl,hmu,hva,rfl,rfl⟩:=hc.parts
 have HY:=ξ hmu
 clear hc hcm hk hw hmu hva
 obtain⟨va,vc,vb,vd,rfl,hv,hr⟩:=hp
 have HV:=ξ hv
 have B0:=Ja.new w #[.slice va p.vars.length vc,.slice vb p.rows.length vd] 25
 have B1:=Ja.new (w.alloc (.cells #[.slice va p.vars.length vc,.slice vb p.rows.length vd] 25)) #[.int .i64 c.kind,.slice pm c.mult.length cm,.int .i64 c.row,.slice pv c.vars.length cv] 45
 have B2:=Ja.new ((w.alloc (.cells #[.slice va p.vars.length vc,.slice vb p.rows.length vd] 25)).alloc (.cells #[.int .i64 c.kind,.slice pm c.mult.length cm,.int .i64 c.row,.slice pv c.vars.length cv] 45)) rowZ 42
 simp only[World.size_alloc] at B1 B2
 unfold rowZ at B2
 have HB:=ξ (show _∧Ja _ _ #[.slice va p.vars.length vc,.slice vb p.rows.length vd]∧Ja _ _ #[.int .i64 c.kind,.slice pm c.mult.length cm,.int .i64 c.row,.slice pv c.vars.length cv]∧Ja _ _ #[.string ⟨#[]⟩,.int .i64 0,.int .i64 0,.slice none 0 0,.int .i64 0] from⟨B0.1.trans (B1.1.trans B2.1),B0.2.grow (B1.1.trans B2.1),B1.2.grow B2.1,B2.2⟩)
 clear hv hr B0 B1 B2
 unfold prgV at HP ⊢
 go_enter Tryz.func205,Tryz.ntmps205
 go_wp2_with fail
 generalize hb4:w.heap.size+1+1=b4 at HB ⊢
 generalize hbc:w.heap.size+1=bc at HB ⊢
 generalize hbp:w.heap.size=bp at HB ⊢
 generalize ((w.alloc _).alloc _).alloc _=W at HB ⊢
 have G:=ξ HB.out.1
 have TP:=ξ HB.out.2.1
 have TC:=ξ HB.out.2.2.1
 have T4:=ξ HB.out.2.2.2
 have HB4:=ξ (show w.heap.size≤b4 from by omega)
 have HP4:=ξ (show bp≠b4 from by omega)
 clear HB hb4 hbc hbp
 refine(Yl W _ p pm cm c.mult 4 (HP.out.grow G.out) (HY.out.grow G.out) (by decide) (by omega)).mono ?_
 rintro _ w1 ⟨r1,rfl,g1,h1⟩
 have G:=ξ (G.out.trans g1)
 have TP:=ξ (TP.out.grow g1)
 have TC:=ξ (TC.out.grow g1)
 have T4:=ξ (T4.out.grow g1)
 rcases h1.cases with⟨rfl,k1⟩|⟨rfl,k1⟩
 rotate_left
 ·have H:=ξ (show ¬ Oi p c.mult from fun h=>k1 h.1)
  clear h1 k1 g1
  have c0:=T4.out.at 0 rfl
  have c1:=T4.out.at 1 rfl
  have c2:=T4.out.at 2 rfl
  have c3:=T4.out.at 3 rfl
  have c4:=T4.out.at 4 rfl
  have f0:=Ja.f (T4.out) 0
  have f1:=Ja.f (T4.out) 1
  have f2:=Ja.f (T4.out) 2
  have f3:=Ja.f (T4.out) 3
  have f4:=Ja.f (T4.out) 4
  have HXX:=ξ (fill5 (.string ⟨#[]⟩) (.int .i64 0) (.int .i64 0) (.slice none 0 0) (.int .i64 0) (T4.out) (G.out) HB4.out)
  go_wp2_with fail
  try rw[Exit.noGoto_ret]
  generalize ((((w1.setCell _ _).setCell _ _).setCell _ _).setCell _ _).setCell _ _=W5 at HXX ⊢
  clear c0 c1 c2 c3 c4 f0 f1 f2 f3 f4
  have z0:=HXX.out.2.1.at 0 rfl
  have z1:=HXX.out.2.1.at 1 rfl
  have z2:=HXX.out.2.1.at 2 rfl
  have z3:=HXX.out.2.1.at 3 rfl
  have z4:=HXX.out.2.1.at 4 rfl
  refine bodyPost_ret (by simp[results,Tryz.results205,go_sem,z0,z1,z2,z3,z4];rfl) rfl ?_
  exact⟨_,rfl,HXX.out.1,.inr ⟨H.out,13,by first|decide|exact HEE.out,rfl⟩⟩
 have H1:=ξ k1
 clear h1 k1 g1
 have y0:=TP.out.at 0 rfl
 have y1:=TP.out.at 1 rfl
 have x1:=TC.out.at 1 rfl
 go_wp2_with fail
 clear y0 y1 x1
 refine(Yi w1 _ p pm cm c.mult (HP.out.grow G.out) (HY.out.grow G.out) HC.out HK.out).mono ?_
 rintro _ w3 ⟨r3,rfl,g3,bo,u,rfl,hbo,ho,hu⟩
 have HN:=ξ (show w.heap.size≤bo∧bp≠bo∧b4≠bo from by
  have h1:=G.out.size
  have h2:=TP.out.lt
  have h3:=T4.out.lt
  exact⟨by omega,by omega,by omega⟩)
 obtain⟨u0,rfl,hu⟩:=Pv hu
 have B7:=box3 w3 (.bool u0.n) (.slice u0.p u0.k u0.c) (.slice u0.q u0.m u0.e) 68
 have HS1:=ξ (show Gr w (w3.alloc (.cells #[.bool u0.n,.slice u0.p u0.k u0.c,.slice u0.q u0.m u0.e] 68))∧Ja _ bp _∧Ja _ b4 _∧Jo _ bo p.vars.length (combA p c.mult) 80∧J6 (w3.alloc (.cells #[.bool u0.n,.slice u0.p u0.k u0.c,.slice u0.q u0.m u0.e] 68)) w3.heap.size (combB p c.mult) from
  ⟨(G.out.trans g3).trans B7.1,(TP.out.grow g3).grow B7.1,(T4.out.grow g3).grow B7.1,ho.grow B7.1,u0,B7.2,hu.grow B7.1⟩)
 have HN7:=ξ (show w3.heap.size≠bo∧bp≠w3.heap.size∧b4≠w3.heap.size∧w.heap.size≤w3.heap.size from by
  have h1:=ho.lt
  have h2:=(TP.out.grow g3).lt
  have h3:=(T4.out.grow g3).lt
  have h4:=(G.out.trans g3).size
  exact⟨by omega,by omega,by omega,h4⟩)
 clear hu ho hbo g3 B7 TP T4 TC G
 unfold RatM.v
 go_wp2_with fail
 generalize w3.heap.size=b7 at HS1 HN7 ⊢
 generalize w3.alloc _=W3 at HS1 ⊢
 refine(Lu W3 0 (by decide) (by decide)).mono ?_
 rintro _ w5 ⟨r5,rfl,g5,h5⟩
 obtain⟨s8,p8,k8,c8,e8,m8,n8,rfl⟩:=h5.agg
 have B8:=Ja.new w5 (rowT (.slice none 0 0)) 42
 have B9:=box3 (w5.alloc (.cells (rowT (.slice none 0 0)) 42)) (.bool s8) (.slice p8 k8 c8) (.slice e8 m8 n8) 68
 simp only[World.size_alloc] at B9
 have HS0:=ξ (show Vc w _ bp b4 bo b7 w5.heap.size (w5.heap.size+1) (.slice va p.vars.length vc) (.slice vb p.rows.length vd) p c.mult 0 (.bool true) from
  ⟨true,.slice none 0 0,[],rfl,⟨fun _ j hj=>by omega,fun _=>rfl⟩,fun _=>rfl,Nat.le_refl _,
   HS1.out.1.trans (g5.trans (B8.1.trans B9.1)),HS1.out.2.1.grow (g5.trans (B8.1.trans B9.1)),HS1.out.2.2.1.grow (g5.trans (B8.1.trans B9.1)),HS1.out.2.2.2.1.grow (g5.trans (B8.1.trans B9.1)),by
    rw[show combB p c.mult - sumQ (loT p.vars (combA p c.mult)) 0=combB p c.mult from by show combB p c.mult - 0=_;grind]
    exact HS1.out.2.2.2.2.grow (g5.trans (B8.1.trans B9.1)),B8.2.grow B9.1,Jz.nil _ _,⟨⟨s8,p8,k8,c8,e8,m8,n8⟩,B9.2,by have:=h5.grow (B8.1.trans B9.1);exact this⟩,fun b h=>by cases h⟩)
 have HNE:=ξ (show RpNe w bp b4 bo b7 w5.heap.size (w5.heap.size+1) from by
  have l1:=(HS1.out.2.1.grow g5).lt
  have l2:=(HS1.out.2.2.1.grow g5).lt
  have l3:=(HS1.out.2.2.2.1.grow g5).lt
  have l4:=(HS1.out.2.2.2.2.grow g5).lt
  have l5:=(HS1.out.1.trans g5).size
  have n1:=HN.out
  have n2:=HN7.out
  have n3:=HP4.out
  exact⟨HB4.out,n2.2.2.2,l5,by omega,⟨n2.2.1,by omega,by omega,n3⟩,⟨n1.2.2,n2.2.2.1,by omega,by omega⟩,⟨n2.1.symm,by omega,by omega⟩,⟨by omega,by omega⟩,by omega⟩)
 have y0:=(HS1.out.2.1.grow (g5.trans (B8.1.trans B9.1))).at 0 rfl
 unfold rowT cutName at HS0 y0
 clear B8 B9 HS1 HN7 h5 g5
 go_wp2_with fail
 clear y0
 generalize w5.heap.size+1=b9 at HS0 HNE ⊢
 generalize w5.heap.size=b8 at HS0 HNE ⊢
 generalize (w5.alloc _).alloc _=W4 at HS0 ⊢
 go_loopw [10,37] (fun v i w9=>∃ k:Nat,i = .int .i64 (k:Int)∧k≤p.vars.length∧Vc w w9 bp b4 bo b7 b8 b9 (.slice va p.vars.length vc) (.slice vb p.rows.length vd) p c.mult k v) (fun _ i _=>p.vars.length - (RowKit.intOf i).toNat)
 case atStart=>exact⟨0,rfl,Nat.zero_le _,HS0.out⟩
 case round=>
  clear HS0
  obtain⟨k,rfl,hk,sm,tv,ts,rfl,hsm,hts,htl,hst⟩:=hrel
  have HSM:=ξ hsm
  have HTS0:=ξ hts
  have HTL:=ξ htl
  have HS:=ξ hst
  clear hsm hts htl hst
  by_cases hlt:k < p.vars.length
  ·have hlt':(k:Int) < (p.vars.length:Int):=by omega
   have hk1:IntKind.i64.wrap ((k:Int)+1)=(k:Int)+1:=by rw[IntKind.wrap_i64];omega
   obtain⟨b,o,x,rfl,hx,hcx⟩:=Mn HV.out rfl hlt
   have HX:=ξ hx
   have HVO:=ξ (HK.out.2.2.1 x (List.mem_of_getElem? hx))
   obtain⟨c0,c1,c2,c3,c4⟩:=hcx _ HS.out.g
   rw[(HW.out x (List.mem_of_getElem? hx)).1] at c3
   have B12:=Ja.new wr #[.int .i64 x.lo,.int .i64 x.up,.bool x.op,.bool true,.int .i64 x.cost] 62
   have HS:=ξ (HS.out.grow B12.1)
   have T12:=ξ B12.2
   obtain⟨ta,hva,hca⟩:=HS.out.ro.at hlt
   obtain⟨e0,e1,e2⟩:=hca _ (Gr.refl _)
   have HVA:=ξ hva
   clear hx hcx B12 hva hca
   go_wp2_with fail
   clear c0 c1 c2 c3 c4 e0 e1 e2
   generalize wr.heap.size=b12 at T12 ⊢
   generalize wr.alloc _=W5 at T12 HS HVA ⊢
   obtain⟨cs,hcs⟩:∃ z,sgn (combA p c.mult k).num=z:=⟨_,rfl⟩
   refine(Pu W5 _ (combA p c.mult k) cs 80 HVA.out hcs (by decide)).mono ?_
   rintro _ w6 ⟨_,rfl,g6,rfl⟩
   have HS:=ξ (HS.out.grow g6)
   have T12:=ξ (T12.out.grow g6)
   have HCZ:=ξ (Ub hcs)
   clear g6 hcs HVA
   by_cases h0:cs=0
   ·have HZ:=ξ (HCZ.out.1 h0)
    have HCE:=ξ (show ceilQ (combA p c.mult k)=0 from by rw[HZ.out];decide +kernel)
    subst h0
    go_wp2_with fail
    refine⟨⟨k+1,by go_num,by omega,sm,tv,ts,rfl,?_,?_,?_,?_⟩,by simp[RowKit.intOf];omega⟩
    ·rw[Vg,HSM.out,HCE.out]
     exact⟨fun h=>⟨h,by unfold In;decide⟩,fun h=>h.1⟩
    ·intro h
     rw[Ph,if_pos HCE.out,List.append_nil]
     exact HTS0.out h
    ·have:=HTL.out;omega
    ·have e1:combB p c.mult - sumQ (loT p.vars (combA p c.mult)) (k+1)=combB p c.mult - sumQ (loT p.vars (combA p c.mult)) k:=by
      rw[Kq]
      have:loT p.vars (combA p c.mult) k=0:=by unfold loT;rw[HX.out,HZ.out];simp
      rw[this,Rat.add_zero]
     have e2:moreZ p.vars (fun j=>ceilQ (combA p c.mult j)) (k+1)=moreZ p.vars (fun j=>ceilQ (combA p c.mult j)) k:=by
      rw[Y1 HX.out,HCE.out];simp
     rw[e1,e2]
     exact HS.out
   have e0:(cs == 0)=false:=by simpa using h0
   clear h0 HCZ
   go_wp2_with fail
   clear e0
   refine(Lu w6 0 (by decide) (by decide)).mono ?_
   rintro _ w7 ⟨r7,rfl,g7,h7⟩
   obtain⟨s7,p7,k7,c7,e7,m7,n7,rfl⟩:=h7.agg
   have B13:=box3 w7 (.bool s7) (.slice p7 k7 c7) (.slice e7 m7 n7) 68
   have HN13:=ξ ((HS.out.grow g7).apart (Nat.le_refl _))
   have HS:=ξ (HS.out.grow (g7.trans B13.1))
   have T13:=ξ B13.2
   have HN12:=ξ (show b12≠w7.heap.size from by have:=(T12.out.grow g7).lt;omega)
   have T12:=ξ (T12.out.grow (g7.trans B13.1))
   have z3:=T12.out.at 3 rfl
   obtain⟨ta,hva,hca⟩:=HS.out.ro.at hlt
   obtain⟨e0,e1,e2⟩:=hca _ (Gr.refl _)
   have HVA:=ξ hva
   clear hva hca B13 h7 g7
   go_wp2_with fail
   clear e0 e1 e2 z3
   generalize w7.heap.size=b13 at T13 HN13 HN12 ⊢
   generalize w7.alloc _=W7 at T13 T12 HS HVA ⊢
   refine(Z9 W7 _ (combA p c.mult k) (ceilQ (combA p c.mult k)) 80 HVA.out rfl (by decide) (by decide)).mono ?_
   rintro _ w8 ⟨r8,rfl,g8,h8⟩
   have HUL:=ξ (show(digs (ceilQ (combA p c.mult k)).natAbs).length≤81 from Rz (HC.out.a p.rows.length k (Nat.le_refl _)))
   obtain⟨uz,huz⟩:∃ z,ceilQ (combA p c.mult k)=z:=⟨_,rfl⟩
   have HUZ:=ξ huz
   rw[huz] at h8 HUL
   have HS:=ξ (HS.out.grow g8)
   have T13:=ξ (T13.out.grow g8)
   have T12:=ξ (T12.out.grow g8)
   have H8:=ξ h8
   clear g8 h8 huz HVA
   go_wp2_with fail
   refine(Vn w8 _ uz H8.out).mono ?_
   rintro _ w9 ⟨r9,rfl,g9,h9⟩
   obtain⟨s9,p9,k9,c9,e9,m9,n9,rfl⟩:=h9.agg
   have HS:=ξ (HS.out.grow g9)
   have T13:=ξ (T13.out.grow g9)
   have T12:=ξ (T12.out.grow g9)
   have f0:=T13.out.load.1
   have f1:=T13.out.load.2.1
   have f2:=T13.out.load.2.2
   have f3:=T13.out.f0 0
   have f4:=T13.out.f0 1
   have f5:=T13.out.f0 2
   have z0:=T12.out.at 0 rfl
   have HNX:=ξ (show RpSt w (set3 w9 b13 (.bool s9) (.slice p9 k9 c9) (.slice e9 m9 n9)) bp b4 bo b7 b8 b9 _ _ _ _ _ tv ts _∧J6 (set3 w9 b13 (.bool s9) (.slice p9 k9 c9) (.slice e9 m9 n9)) b13 (uz:Rat)∧Ja (set3 w9 b13 (.bool s9) (.slice p9 k9 c9) (.slice e9 m9 n9)) b12 _ from
    ⟨HS.out.setX T13.out.noInt HN13.out.2.2 HN13.out.1 HN13.out.2.1,⟨⟨s9,p9,k9,c9,e9,m9,n9⟩,T13.out.set _ _ _,h9.upd T13.out.noInt (upd3 _ _ _ _ _)⟩,T12.out.upd (upd3 _ _ _ _ _) HN12.out⟩)
   have hn12:¬ b12=b13:=HN12.out
   have hn13:¬ b13=b12:=fun e=>hn12 e.symm
   clear h9 g9 T13 T12 HS H8
   go_wp2_with fail
   clear f0 f1 f2 f3 f4 f5 z0 hn12 hn13
   unfold set3 at HNX
   generalize ((w9.setCell _ _).setCell _ _).setCell _ _=W9 at HNX ⊢
   refine(Lu W9 x.lo (Js HVO.out.1).1 (Js HVO.out.1).2).mono ?_
   rintro _ w10 ⟨r10,rfl,g10,h10⟩
   obtain⟨s5,p5,k5,c5,e5,m5,n5,rfl⟩:=h10.agg
   have B14:=box3 w10 (.bool s5) (.slice p5 k5 c5) (.slice e5 m5 n5) 68
   have HN14:=ξ ((HNX.out.1.grow g10).apart (Nat.le_refl _))
   have HNB:=ξ (show b13≠w10.heap.size from by have:=(HNX.out.2.1.grow g10).lt;omega)
   have HS:=ξ (HNX.out.1.grow (g10.trans B14.1))
   have T13:=ξ (HNX.out.2.1.grow (g10.trans B14.1))
   have T14:=ξ (show J6 _ w10.heap.size (x.lo:Rat) from⟨⟨s5,p5,k5,c5,e5,m5,n5⟩,B14.2,h10.grow B14.1⟩)
   clear HNX h10 g10 B14
   go_wp2_with fail
   generalize w10.heap.size=b14 at T14 HN14 HNB ⊢
   generalize w10.alloc _=W10 at T13 T14 HS ⊢
   obtain⟨tl,hl7,htl⟩:=HS.out.t7
   have HTL7:=ξ htl
   have d0:=hl7.c0
   have d1:=hl7.c1
   have d2:=hl7.c2
   obtain⟨ta,hva,hca⟩:=HS.out.ro.at hlt
   have e0:=fun w' g=>(hca w' g).1
   have e1:=fun w' g=>(hca w' g).2.1
   have e2:=fun w' g=>(hca w' g).2.2
   have HVA:=ξ hva
   obtain⟨tk,hl14,htk⟩:=T14.out
   have HT14:=ξ htk
   have i0:=hl14.c0
   have i1:=hl14.c1
   have i2:=hl14.c2
   have g0:Gr W10 W10.drew:=(Gr.refl _).drew
   have GZ:=ξ g0
   clear hl7 htl hva hca hl14 htk
   refine Jp [(0,true),(1,true),(2,true),(3,true),(4,true),(5,true),(6,false),(7,false),(8,false)] (by kernel_rfl) (by kernel_rfl) rfl (by kernel_rfl) (fun _ _ d _ _ h=>by cases d<;>exact h) ?_
   repeat(refine Jf (v:=?_) g0 rfl rfl (fun w' hg=>?_) (fun K hK=>?_);rotate_left;(go_simp;rfl);go_simp;refine hK _ _ ?_;clear hK K)
   refine Jd (args:=?_) rfl rfl rfl rfl rfl rfl (by kernel_rfl) (by kernel_rfl) ?_ (fun K hK=>?_)
   rotate_left
   ·go_simp;rfl
   refine(Nn _ _ _ (combA p c.mult k) (x.lo:Rat) (loT p.vars (combA p c.mult) k) 80 2 (HVA.out.grow GZ.out) (RatC.v (HT14.out.grow GZ.out) (Ky HVO.out.1)) (by unfold loT;rw[HX.out]) (by decide) (by decide)).mono ?_
   rintro _ w11 ⟨r11,rfl,g11,h11⟩
   refine⟨_,rfl,g11,?_⟩
   go_simp
   refine hK _ _ ?_
   clear hK K
   have GZ:=ξ (GZ.out.trans g11)
   refine Jd (args:=?_) rfl rfl rfl rfl rfl rfl (by kernel_rfl) (by kernel_rfl) ?_ (fun K hK=>?_)
   rotate_left
   ·go_simp;rfl
   refine(J5e _ _ _ (combB p c.mult - sumQ (loT p.vars (combA p c.mult)) k) (loT p.vars (combA p c.mult) k) (combB p c.mult - sumQ (loT p.vars (combA p c.mult)) (k+1)) 80 80 (RatC.v (HTL7.out.grow GZ.out) (HC.out.r k (by omega))) (h11.v (HC.out.r0 k)) (Oe (HC.out.r0 k)) (by rw[Kq];grind) (by decide) (by decide)).mono ?_
   rintro _ w12 ⟨r12,rfl,g12,h12⟩
   refine⟨_,rfl,g12,?_⟩
   go_simp
   refine hK _ _ ?_
   clear hK K
   have GZ:=ξ (GZ.out.trans g12)
   clear h11
   have HS:=ξ (HS.out.grow GZ.out)
   have T13:=ξ (T13.out.grow GZ.out)
   have T14:=ξ (T14.out.grow GZ.out)
   obtain⟨s6,p6,k6,c6,e6,m6,n6,rfl⟩:=h12.agg
   obtain⟨tb,hl7,-⟩:=HS.out.t7
   have f0:=hl7.load.1
   have f1:=hl7.load.2.1
   have f2:=hl7.load.2.2
   have f3:=hl7.f0 0
   have f4:=hl7.f0 1
   have f5:=hl7.f0 2
   have HNX:=ξ (And.intro (HS.out.putB HNE.out (t:=⟨s6,p6,k6,c6,e6,m6,n6⟩) h12) (And.intro (T13.out.upd HS.out.t7.noInt (upd3 w12 b7 (.bool s6) (.slice p6 k6 c6) (.slice e6 m6 n6)) HN13.out.1.2.2.2.1.symm) (T14.out.upd HS.out.t7.noInt (upd3 w12 b7 (.bool s6) (.slice p6 k6 c6) (.slice e6 m6 n6)) HN14.out.1.2.2.2.1.symm)))
   clear h12 hl7 d0 d1 d2 e0 e1 e2 i0 i1 i2 HS T13 T14
   refine Jj rfl rfl (fun K hK=>?_)
   go_simp
   refine⟨fun h=>Bool.noConfusion h,hK _ _ ?_⟩
   clear hK K
   unfold set3 at HNX
   dsimp only at HNX
   generalize ((w12.setCell _ _).setCell _ _).setCell _ _=W12 at HNX ⊢
   refine Ji ?_
   clear f0 f1 f2 f3 f4 f5 g0 g11 g12
   have HS:=ξ HNX.out.1
   have T13:=ξ HNX.out.2.1
   have T14:=ξ HNX.out.2.2
   clear HNX
   go_wp2_with fail
   obtain⟨tl,hl9,htl⟩:=HS.out.t9
   have HTL9:=ξ htl
   have d0:=hl9.c0
   have d1:=hl9.c1
   have d2:=hl9.c2
   obtain⟨tu,hl13,htu⟩:=T13.out
   have HT13:=ξ htu
   have e0:=hl13.c0
   have e1:=hl13.c1
   have e2:=hl13.c2
   obtain⟨tk,hl14,htk⟩:=T14.out
   have HT14:=ξ htk
   have i0:=hl14.c0
   have i1:=hl14.c1
   have i2:=hl14.c2
   have HCL:=ξ (show ∀ j,(ceilQ (combA p c.mult j)).natAbs < BB ^ 81 from fun j=>Vp (HC.out.a p.rows.length j (Nat.le_refl _)))
   have g0:Gr W12 W12.drew:=(Gr.refl _).drew
   have GZ:=ξ g0
   clear hl9 htl hl13 htu hl14 htk
   refine Jp [(0,true),(1,true),(2,true),(3,false),(4,false),(5,false)] (by kernel_rfl) (by kernel_rfl) rfl (by kernel_rfl) (fun _ _ d _ _ h=>by cases d<;>exact h) ?_
   repeat(refine Jf (v:=?_) g0 rfl rfl (fun w' hg=>?_) (fun K hK=>?_);rotate_left;(go_simp;rfl);go_simp;refine hK _ _ ?_;clear hK K)
   refine Jd (args:=?_) rfl rfl rfl rfl rfl rfl (by kernel_rfl) (by kernel_rfl) ?_ (fun K hK=>?_)
   rotate_left
   ·go_simp;rfl
   refine(Nn _ _ _ (uz:Rat) (x.lo:Rat) ((uz * x.lo:Int):Rat) 81 2 (RatC.v (HT13.out.grow GZ.out) (Nq HUL.out (by decide))) (RatC.v (HT14.out.grow GZ.out) (Ky HVO.out.1)) (Rat.intCast_mul _ _).symm (by decide) (by decide)).mono ?_
   rintro _ w13 ⟨r13,rfl,g13,h13⟩
   refine⟨_,rfl,g13,?_⟩
   go_simp
   refine hK _ _ ?_
   clear hK K
   have GZ:=ξ (GZ.out.trans g13)
   refine Jd (args:=?_) rfl rfl rfl rfl rfl rfl (by kernel_rfl) (by kernel_rfl) ?_ (fun K hK=>?_)
   rotate_left
   ·go_simp;rfl
   refine(Qz _ _ _ _ ((uz * x.lo:Int):Rat) ((moreZ p.vars (fun j=>ceilQ (combA p c.mult j)) (k+1):Int):Rat) 84 84 (RatC.v (HTL9.out.grow GZ.out) (Yz HK.out.2.2.1 (fun j _=>HCL.out j) (by omega))) (h13.v (Nq (Kf (Nat.lt_of_lt_of_le (Y3 (Kl HUL.out) (Ys HVO.out.1)) (Nat.pow_le_pow_right (by decide) (by decide)))) (by decide))) (by rw[Y1 HX.out,HUZ.out,Rat.intCast_add]) (by decide) (by decide)).mono ?_
   rintro _ w14 ⟨r14,rfl,g14,h14⟩
   refine⟨_,rfl,g14,?_⟩
   go_simp
   refine hK _ _ ?_
   clear hK K
   have GZ:=ξ (GZ.out.trans g14)
   clear h13
   have HS:=ξ (HS.out.grow GZ.out)
   have T13:=ξ (T13.out.grow GZ.out)
   obtain⟨s4,p4,k4,c4,e4,m4,n4,rfl⟩:=h14.agg
   obtain⟨tb,hl9,-⟩:=HS.out.t9
   have f0:=hl9.load.1
   have f1:=hl9.load.2.1
   have f2:=hl9.load.2.2
   have f3:=hl9.f0 0
   have f4:=hl9.f0 1
   have f5:=hl9.f0 2
   have HNX:=ξ (And.intro (HS.out.putM HNE.out (t:=⟨s4,p4,k4,c4,e4,m4,n4⟩) h14) (T13.out.upd HS.out.t9.noInt (upd3 w14 b9 (.bool s4) (.slice p4 k4 c4) (.slice e4 m4 n4)) HN13.out.1.2.2.2.2.2.symm))
   clear h14 hl9 d0 d1 d2 e0 e1 e2 i0 i1 i2 HS T13 T14
   refine Jj rfl rfl (fun K hK=>?_)
   go_simp
   refine⟨fun h=>Bool.noConfusion h,hK _ _ ?_⟩
   clear hK K
   unfold set3 at HNX
   dsimp only at HNX
   generalize ((w14.setCell _ _).setCell _ _).setCell _ _=W14 at HNX ⊢
   refine Ji ?_
   clear f0 f1 f2 f3 f4 f5 g0 g13 g14
   have HS:=ξ HNX.out.1
   obtain⟨tu,hl13,htu⟩:=HNX.out.2
   have HT13:=ξ htu
   have e0:=hl13.load.1
   have e1:=hl13.load.2.1
   have e2:=hl13.load.2.2
   clear HNX hl13 htu
   go_wp2_with fail
   clear e0 e1 e2
   refine(Vm W14 _ uz 81 (RatC.v HT13.out (Nq HUL.out (by decide))) (by decide)).mono ?_
   rintro _ w15 ⟨_,rfl,g15,nz,tz,rfl,htz,hnz⟩
   have HS:=ξ (HS.out.grow g15)
   have HTZ:=ξ htz
   have HNZ:=ξ hnz
   have HSM2:=ξ (show(sm && tz)=true↔∀ j,j < k+1→In (ceilQ (combA p c.mult j)) from by rw[Vg,HUZ.out];exact J1s HSM.out htz)
   clear g15 htz hnz HT13
   by_cases hz:nz=0
   ·have e0:(nz != 0)=false:=by simpa using hz
    have HEQ:=ξ (show(sm && tz)=true→ts=cutTerms (combA p c.mult) (k+1) from fun h=>by
     have h2:=(Bool.and_eq_true _ _ ▸ h:sm=true∧tz=true)
     have h3:uz=0:=by rw[← HNZ.out h2.2];exact hz
     rw[Ph,if_pos (by rw[HUZ.out];exact h3),List.append_nil]
     exact HTS0.out h2.1)
    clear hz
    cases sm<;>cases tz<;>(go_wp2_with fail;refine⟨⟨k+1,by go_num,by omega,_,tv,ts,rfl,HSM2.out,HEQ.out,by have:=HTL.out;omega,HS.out⟩,by simp[RowKit.intOf];omega⟩)
   ·have e0:(nz != 0)=true:=by simpa using hz
    have HEQ:=ξ (show(sm && tz)=true→ts ++ [⟨(k:Int),nz⟩]=cutTerms (combA p c.mult) (k+1) from fun h=>by
     have h2:=(Bool.and_eq_true _ _ ▸ h:sm=true∧tz=true)
     have h3:=HNZ.out h2.2
     rw[Ph,if_neg (by rw[HUZ.out,← h3];exact hz),HUZ.out,← h3,← HTS0.out h2.1])
    clear hz
    have c6:=HS.out.t8.at 3 rfl
    have BS:=SlL.new (enc:=encTerm) (sz:=2) w15 75 My [⟨(k:Int),nz⟩] #[.int .i64 (k:Int),.int .i64 nz] 1 rfl rfl (by decide)
    have c6:=(HS.out.grow BS.1).t8.at 3 rfl
    have c7:=HS.out.t8.at 3 rfl
    have HS:=ξ (HS.out.grow BS.1)
    have HBS:=ξ BS.2
    clear BS
    generalize hst:(sm && tz)=st at HEQ HSM2
    have HST:=ξ hst
    clear hst
    cases sm<;>cases tz
    all_goals
     go_wp2_with (at_builtin;refine Hold.hold ?_)
     clear c6 c7
     generalize w15.heap.size=bs at HBS ⊢
     generalize w15.alloc _=w16 at HS HBS ⊢
     refine Hold.go ?_
     refine J1a rfl _ _ rfl w.heap.size tv _ ts ⟨(k:Int),nz⟩ rfl HS.out.tw rfl HBS.out (by have:=HTL.out;omega) HS.out.g.size ?_
     intro tv' w17 h1 h2 h3 h4
     obtain⟨⟨q1,q2⟩,q3⟩:=HS.out.putT HNE.out h1 h2 h3 h4
     obtain⟨pt,ct,hpt⟩:=M2 h1
     obtain⟨ln,hln⟩:∃ n,(ts ++ ([⟨(k:Int),nz⟩]:List Jg)).length=n:=⟨_,rfl⟩
     rw[hln] at hpt
     subst hpt
     obtain⟨pt0,ct0,hpt0⟩:=M2 HS.out.tw
     obtain⟨ln0,hln0⟩:∃ n,ts.length=n:=⟨_,rfl⟩
     rw[hln0] at hpt0
     subst hpt0
     have HNX:=ξ q3
     clear h1 h2 h3 h4 q3 hln hln0
     go_wp2_with fail
     clear q1 q2
     generalize w17.setCell _ _=W7 at HNX ⊢
     refine⟨⟨k+1,by go_num,by omega,st,_,ts ++ [⟨(k:Int),nz⟩],by rw[← HST.out];rfl,HSM2.out,HEQ.out,by have:=HTL.out;simp;omega,HNX.out⟩,by simp[RowKit.intOf];omega⟩
  ·obtain rfl:k=p.vars.length:=by omega
   go_wp2_with fail
   obtain⟨tl,hl7,htl⟩:=HS.out.t7
   have HTL7:=ξ htl
   have d0:=hl7.c0
   have d1:=hl7.c1
   have d2:=hl7.c2
   obtain⟨tm,hl9,htm⟩:=HS.out.t9
   have HTL9:=ξ htm
   have e0:=hl9.c0
   have e1:=hl9.c1
   have e2:=hl9.c2
   have HCL:=ξ (show ∀ j,(ceilQ (combA p c.mult j)).natAbs < BB ^ 81 from fun j=>Vp (HC.out.a p.rows.length j (Nat.le_refl _)))
   have HMS:=ξ (Yz (k:=p.vars.length) HK.out.2.2.1 (fun j _=>HCL.out j) hn)
   have g0:Gr wr wr.drew:=(Gr.refl _).drew
   have GZ:=ξ g0
   clear hl7 htl hl9 htm
   refine Jp [(0,true),(2,true),(1,false),(3,false),(4,false),(5,false),(6,false),(7,true),(8,true),(9,true),(10,true),(11,true)] (by kernel_rfl) (by kernel_rfl) rfl (by kernel_rfl) (fun _ _ d _ _ h=>by cases d<;>exact h) ?_
   repeat(refine Jf (v:=?_) g0 rfl rfl (fun w' hg=>?_) (fun K hK=>?_);rotate_left;(go_simp;rfl);go_simp;refine hK _ _ ?_;clear hK K)
   refine Jd (args:=?_) rfl rfl rfl rfl rfl rfl (by kernel_rfl) (by kernel_rfl) ?_ (fun K hK=>?_)
   rotate_left
   ·go_simp;rfl
   refine(Z9 _ _ _ (ceilQ (combB p c.mult - sumQ (loT p.vars (combA p c.mult)) p.vars.length)) 80 (RatC.v (HTL7.out.grow GZ.out) (HC.out.r _ (Nat.le_refl _))) rfl (by decide) (by decide)).mono ?_
   rintro _ w4 ⟨r4,rfl,g4,h4⟩
   refine⟨_,rfl,g4,?_⟩
   go_simp
   refine hK _ _ ?_
   clear hK K
   have GZ:=ξ (GZ.out.trans g4)
   have H4:=ξ (h4.v (Rz (HC.out.r _ (Nat.le_refl _))))
   clear h4
   refine Jd (args:=?_) rfl rfl rfl rfl rfl rfl (by kernel_rfl) (by kernel_rfl) ?_ (fun K hK=>?_)
   rotate_left
   ·go_simp;rfl
   refine(J00 _ _ _ (moreZ p.vars (fun j=>ceilQ (combA p c.mult j)) p.vars.length) 84 (RatC.v (HTL9.out.grow GZ.out) HMS.out) (Rat.floor_intCast _) (by decide)).mono ?_
   rintro _ w5 ⟨r5,rfl,g5,h5⟩
   refine⟨_,rfl,g5,?_⟩
   go_simp
   refine hK _ _ ?_
   clear hK K
   have GZ:=ξ (GZ.out.trans g5)
   have H4:=ξ (H4.out.grow g5)
   have H5:=ξ (h5.v HMS.out.1)
   clear h5
   obtain⟨cz,hcz⟩:∃ z,cutBound p c.mult=z:=⟨_,rfl⟩
   have HCZ:=ξ hcz
   refine Jd (args:=?_) rfl rfl rfl rfl rfl rfl (by kernel_rfl) (by kernel_rfl) ?_ (fun K hK=>?_)
   rotate_left
   ·go_simp;rfl
   refine(Uq _ _ _ (ceilQ (combB p c.mult - sumQ (loT p.vars (combA p c.mult)) p.vars.length)) (moreZ p.vars (fun j=>ceilQ (combA p c.mult j)) p.vars.length) cz 81 84 H4.out H5.out (by rw[← HCZ.out,J26]) (by decide) (by decide)).mono ?_
   rintro _ w6 ⟨r6,rfl,g6,h6⟩
   refine⟨_,rfl,g6,?_⟩
   go_simp
   refine hK _ _ ?_
   clear hK K
   have GZ:=ξ (GZ.out.trans g6)
   clear hcz
   refine Jd (args:=?_) rfl rfl rfl rfl rfl rfl (by kernel_rfl) (by kernel_rfl) ?_ (fun K hK=>?_)
   rotate_left
   ·go_simp;rfl
   refine(Vn _ _ cz h6.1).mono ?_
   rintro _ w7 ⟨r7,rfl,g7,h7⟩
   refine⟨_,rfl,g7,?_⟩
   go_simp
   refine hK _ _ ?_
   clear hK K
   have GZ:=ξ (GZ.out.trans g7)
   refine Jd (args:=?_) rfl rfl rfl rfl rfl rfl (by kernel_rfl) (by kernel_rfl) ?_ (fun K hK=>?_)
   rotate_left
   ·go_simp;rfl
   refine(Vm _ _ cz 166 (h7.v (Nq h6.2.len (by decide))) (by decide)).mono ?_
   rintro _ w8 ⟨_,rfl,g8,nz,tz,rfl,htz,hnz⟩
   refine⟨_,rfl,g8,?_⟩
   go_simp
   refine hK _ _ ?_
   clear hK K
   have GZ:=ξ (GZ.out.trans g8)
   have HTZ:=ξ htz
   have HNZ:=ξ hnz
   have g9:=GZ.out
   clear h6 h7 htz hnz
   repeat(refine Jf (v:=?_) g9 rfl rfl (fun w' hg=>?_) (fun K hK=>?_);rotate_left;(go_simp;rfl);go_simp;refine hK _ _ ?_;clear hK K)
   refine Ji ?_
   have HS:=ξ (HS.out.grow GZ.out)
   clear d0 d1 d2 e0 e1 e2 g0 g4 g5 g6 g7 g8 g9 GZ H4 H5
   have HT4:=ξ (show Ja w8 b4 #[.string ⟨#[]⟩,.int .i64 0,.int .i64 0,.slice none 0 0,.int .i64 0] from HS.out.t4)
   by_cases hok:tz=true∧sm=true
   ·obtain⟨rfl,rfl⟩:=hok
    have HOK:=ξ (show Oi p c.mult from⟨H1.out,HSM.out.1 rfl,by rw[HCZ.out];exact HTZ.out.1 rfl⟩)
    have HTE:=ξ (HTS0.out rfl)
    obtain rfl:=HNZ.out rfl
    obtain⟨pt,ct,rfl⟩:=M2 HS.out.tw
    obtain⟨ln0,hln0⟩:∃ n,ts.length=n:=⟨_,rfl⟩
    have HT9:=ξ (show Ja w8 b8 #[.string ⟨cutName.toArray⟩,.int .i64 0,.int .i64 1,.slice pt ts.length ct,.int .i64 0] from HS.out.t8)
    have HXX:=ξ (J5N HS.out HNE.out nz)
    have y0:=HT9.out.at 0 rfl
    have y1:=HT9.out.at 1 rfl
    have y2:=HT9.out.at 2 rfl
    have y3:=HT9.out.at 3 rfl
    have y4:=HT9.out.at 4 rfl
    have y5:=Ja.f HT9.out 4
    have c0:=HT4.out.at 0 rfl
    have c1:=HT4.out.at 1 rfl
    have c2:=HT4.out.at 2 rfl
    have c3:=HT4.out.at 3 rfl
    have c4:=HT4.out.at 4 rfl
    have f0:=Ja.f HT4.out 0
    have f1:=Ja.f HT4.out 1
    have f2:=Ja.f HT4.out 2
    have f3:=Ja.f HT4.out 3
    have f4:=Ja.f HT4.out 4
    have hne1:¬ b4=b8:=HNE.out.x4.2.2.1
    have hne2:¬ b8=b4:=fun e=>hne1 e.symm
    clear hln0
    go_wp2_with fail
    clear c0 c1 c2 c3 c4 f0 f1 f2 f3 f4 y0 y1 y2 y3 y4 y5
    try rw[Exit.noGoto_ret]
    generalize w8.setCell ⟨b8,4,none⟩ (.int .i64 nz)=Wb at HXX ⊢
    have hf:=fill5 (.string ⟨cutName.toArray⟩) (.int .i64 0) (.int .i64 1) (.slice pt ts.length ct) (.int .i64 nz) HXX.out.2.2.1 HXX.out.1 HB4.out
    have HF:=ξ (show _∧_∧Jz _ w.heap.size _ _ from⟨hf.1,hf.2.1,HXX.out.2.2.2.1.same hf.2.2 (by simp[World.setCell]) (Mh HXX.out.2.2.2.1 HXX.out.2.2.2.2) rfl rfl rfl⟩)
    clear hf
    generalize ((((Wb.setCell _ _).setCell _ _).setCell _ _).setCell _ _).setCell _ _=W6 at HF ⊢
    have z0:=HF.out.2.1.at 0 rfl
    have z1:=HF.out.2.1.at 1 rfl
    have z2:=HF.out.2.1.at 2 rfl
    have z3:=HF.out.2.1.at 3 rfl
    have z4:=HF.out.2.1.at 4 rfl
    refine bodyPost_ret (by simp[results,Tryz.results205,go_sem,z0,z1,z2,z3,z4];rfl) rfl ?_
    exact⟨_,rfl,HF.out.1,.inl ⟨HOK.out,⟨cutName,0,1,pt,ct,ts,nz⟩,rfl,by unfold roundRow;rw[HCZ.out,← HTE.out];rfl,HF.out.2.2⟩⟩
   ·have H:=ξ (show ¬ Oi p c.mult from fun h=>hok ⟨HTZ.out.2 (by rw[← HCZ.out];exact h.2.2),HSM.out.2 h.2.1⟩)
    cases tz
    ·clear hok
     have c0:=HT4.out.at 0 rfl
     have c1:=HT4.out.at 1 rfl
     have c2:=HT4.out.at 2 rfl
     have c3:=HT4.out.at 3 rfl
     have c4:=HT4.out.at 4 rfl
     have f0:=Ja.f (HT4.out) 0
     have f1:=Ja.f (HT4.out) 1
     have f2:=Ja.f (HT4.out) 2
     have f3:=Ja.f (HT4.out) 3
     have f4:=Ja.f (HT4.out) 4
     have HXX:=ξ (fill5 (.string ⟨#[]⟩) (.int .i64 0) (.int .i64 0) (.slice none 0 0) (.int .i64 0) (HT4.out) (HS.out.g) HB4.out)
     go_wp2_with fail
     try rw[Exit.noGoto_ret]
     generalize ((((w8.setCell _ _).setCell _ _).setCell _ _).setCell _ _).setCell _ _=W5 at HXX ⊢
     clear c0 c1 c2 c3 c4 f0 f1 f2 f3 f4
     have z0:=HXX.out.2.1.at 0 rfl
     have z1:=HXX.out.2.1.at 1 rfl
     have z2:=HXX.out.2.1.at 2 rfl
     have z3:=HXX.out.2.1.at 3 rfl
     have z4:=HXX.out.2.1.at 4 rfl
     refine bodyPost_ret (by simp[results,Tryz.results205,go_sem,z0,z1,z2,z3,z4];rfl) rfl ?_
     exact⟨_,rfl,HXX.out.1,.inr ⟨H.out,8,by first|decide|exact HEE.out,rfl⟩⟩
    ·cases sm
     ·clear hok
      have c0:=HT4.out.at 0 rfl
      have c1:=HT4.out.at 1 rfl
      have c2:=HT4.out.at 2 rfl
      have c3:=HT4.out.at 3 rfl
      have c4:=HT4.out.at 4 rfl
      have f0:=Ja.f (HT4.out) 0
      have f1:=Ja.f (HT4.out) 1
      have f2:=Ja.f (HT4.out) 2
      have f3:=Ja.f (HT4.out) 3
      have f4:=Ja.f (HT4.out) 4
      have HXX:=ξ (fill5 (.string ⟨#[]⟩) (.int .i64 0) (.int .i64 0) (.slice none 0 0) (.int .i64 0) (HT4.out) (HS.out.g) HB4.out)
      go_wp2_with fail
      try rw[Exit.noGoto_ret]
      generalize ((((w8.setCell _ _).setCell _ _).setCell _ _).setCell _ _).setCell _ _=W5 at HXX ⊢
      clear c0 c1 c2 c3 c4 f0 f1 f2 f3 f4
      have z0:=HXX.out.2.1.at 0 rfl
      have z1:=HXX.out.2.1.at 1 rfl
      have z2:=HXX.out.2.1.at 2 rfl
      have z3:=HXX.out.2.1.at 3 rfl
      have z4:=HXX.out.2.1.at 4 rfl
      refine bodyPost_ret (by simp[results,Tryz.results205,go_sem,z0,z1,z2,z3,z4];rfl) rfl ?_
      exact⟨_,rfl,HXX.out.1,.inr ⟨H.out,8,by first|decide|exact HEE.out,rfl⟩⟩
     ·exact absurd ⟨rfl,rfl⟩ hok
end Prf
end Go.Proofs.YtcjgimlcefhhmaaGreatDoor
