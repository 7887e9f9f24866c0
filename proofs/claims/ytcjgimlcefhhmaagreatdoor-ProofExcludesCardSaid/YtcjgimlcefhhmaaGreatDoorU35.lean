/- Texts: CuA CuB CuH PvA. -/
import Derived.Test.YtcjgimlcefhhmaaGreatDoorU25
import Derived.Test.YtcjgimlcefhhmaaGreatDoorU28
import Derived.Test.YtcjgimlcefhhmaaGreatDoorU29
import Derived.Test.YtcjgimlcefhhmaaGreatDoorU32
import Derived.Test.YtcjgimlcefhhmaaGreatDoorU34
set_option linter.unusedVariables false
set_option linter.unusedSimpArgs false
set_option maxRecDepth 100000
set_option maxHeartbeats 12800000
namespace Go.Proofs.YtcjgimlcefhhmaaGreatDoor
namespace Prf
open Go.RowKit Go.Lib
theorem SlL.none_nil {α:Type}{enc:α→List Value}{sz:Nat}{w:World}{n c:Nat}{l:List α}(h:SlL w sz enc (.slice none n c) l):l=[]∧n=0∧c=0:=by
 obtain⟨h0,p',c',hv,h1,h2,h3⟩:=h
 injection hv with e1 e2 e3
 subst e1 e3
 have hc:c=0:=by
  rcases h3 with h3|⟨b,o,h3,_⟩
  ·exact h3
  ·cases h3
 subst hc
 have hl:l.length=0:=by omega
 exact⟨List.eq_nil_of_length_eq_zero hl,by omega,rfl⟩
theorem J6g:(Tryz.prog.info? 75).map (fun i=>(i.zero,i.size,i.bytes))=some (some (.agg #[.int .i64 0,.int .i64 0]),2,16):=by kernel_rfl
theorem J2F:∀ x,∀ u ∈ encTerm x,u.oneCell'=true:=fun x u hu=>by
 simp[encTerm] at hu
 rcases hu with rfl|rfl<;>rfl
theorem R2 (w:World)(p:Option Addr)(n c:Nat)(l:List VarM)(hl:SlL w 5 encVar (.slice p n c) l)(hn:l.length=n)(hb:n≤1000000):
  Calls Tryz.prog 95 #[.slice p n c] w (Ret w fun r w'=>∃ p' c',r = .slice p' n c'∧OwnL w' w.heap.size 62 5 encVar (.slice p' n c') l):=by
 have hE:=fun(w:World) (a:Option Addr) (n c:Nat)=>Lib.run_eql_slice_nil (P:=Tryz.prog) w 22 62 a n c 0 0 Tryz.underlying22
 cases p with
 | none=>
  obtain⟨rfl,rfl,rfl⟩:=SlL.none_nil hl
  clear hl
  go_enter Tryz.func95,Tryz.ntmps95
  go_wp2_with fail
  try rw[Exit.noGoto_ret]
  go_ret
  exact⟨_,rfl,Gr.refl _,none,0,rfl,OwnL.nil _ _ _⟩
 | some ad=>
  subst hn
  have HL:=ξ hl
  clear hl
  obtain⟨n,hn⟩:∃ n,l.length=n:=⟨_,rfl⟩
  have HN:=ξ hn
  rw[hn] at hb HL ⊢
  clear hn
  have f8:J0 #[] 62 w.heap.size (w.alloc (.cells #[] 62)):=J0.new _ _ _
  have g8:Gr w (w.alloc (.cells #[] 62)):=(Gr.refl _).alloc _
  have HF:=ξ f8
  have HG:=ξ g8
  clear f8 g8
  go_enter Tryz.func95,Tryz.ntmps95
  go_wp2_with (at_builtin;refine Hold.hold ?_)
  generalize hb8:w.heap.size=b8 at HF ⊢
  generalize w.alloc _=W at HF HG ⊢
  refine Hold.go ?_
  refine wpList_plain rfl (fun K hK=>?_)
  refine J1b _ _ 22 62 _ 32 rfl Tryz.underlying22 J6z rfl (by decide) Nf J2G b8 b8 (.slice (some ad) n c) l rfl HF.out (Nat.le_refl _) rfl (SlL.grow HL.out HG.out) (by rw[HN.out];omega) (by rw[HN.out];omega) ?_
  intro v' w' ho g _
  have HG2:=ξ (HG.out.trans g)
  obtain⟨p',c',hv,_,_⟩:=ho.read.parts
  rw[HN.out] at hv
  subst hv
  have HO2:=ξ ho
  clear ho g
  refine hK _ _ ?_
  clear hK K
  go_wp2_with fail
  go_ret
  exact⟨_,rfl,HG2.out,p',c',rfl,by rw[hb8];exact HO2.out⟩
theorem Vq (w:World)(p:Option Addr)(n c:Nat)(l:List Jg)(hl:SlL w 2 encTerm (.slice p n c) l)(hn:l.length=n)(hb:n≤1000000):
  Calls Tryz.prog 150 #[.slice p n c] w (Ret w fun r w'=>∃ p' c',r = .slice p' n c'∧OwnL w' w.heap.size 75 2 encTerm (.slice p' n c') l):=by
 have hE:=fun(w:World) (a:Option Addr) (n c:Nat)=>Lib.run_eql_slice_nil (P:=Tryz.prog) w 40 75 a n c 0 0 Tryz.underlying40
 cases p with
 | none=>
  obtain⟨rfl,rfl,rfl⟩:=SlL.none_nil hl
  clear hl
  go_enter Tryz.func150,Tryz.ntmps150
  go_wp2_with fail
  try rw[Exit.noGoto_ret]
  go_ret
  exact⟨_,rfl,Gr.refl _,none,0,rfl,OwnL.nil _ _ _⟩
 | some ad=>
  subst hn
  have HL:=ξ hl
  clear hl
  obtain⟨n,hn⟩:∃ n,l.length=n:=⟨_,rfl⟩
  have HN:=ξ hn
  rw[hn] at hb HL ⊢
  clear hn
  have f8:J0 #[] 75 w.heap.size (w.alloc (.cells #[] 75)):=J0.new _ _ _
  have g8:Gr w (w.alloc (.cells #[] 75)):=(Gr.refl _).alloc _
  have HF:=ξ f8
  have HG:=ξ g8
  clear f8 g8
  go_enter Tryz.func150,Tryz.ntmps150
  go_wp2_with (at_builtin;refine Hold.hold ?_)
  generalize hb8:w.heap.size=b8 at HF ⊢
  generalize w.alloc _=W at HF HG ⊢
  refine Hold.go ?_
  refine wpList_plain rfl (fun K hK=>?_)
  refine J1b _ _ 40 75 _ 16 rfl Tryz.underlying40 J6g rfl (by decide) My J2F b8 b8 (.slice (some ad) n c) l rfl HF.out (Nat.le_refl _) rfl (SlL.grow HL.out HG.out) (by rw[HN.out];omega) (by rw[HN.out];omega) ?_
  intro v' w' ho g _
  have HG2:=ξ (HG.out.trans g)
  obtain⟨p',c',hv,_,_⟩:=ho.read.parts
  rw[HN.out] at hv
  subst hv
  have HO2:=ξ ho
  clear ho g
  refine hK _ _ ?_
  clear hK K
  go_wp2_with fail
  go_ret
  exact⟨_,rfl,HG2.out,p',c',rfl,by rw[hb8];exact HO2.out⟩
theorem Pg (w:World)(v:Value)(p:Prg)(j:Int)(hp:Jv w v p):
  Calls Tryz.prog 259 #[v,.int .i64 j] w (Ret w fun r _=>Jb (Kw p j) r):=by
 obtain⟨va,vc,vb,vd,rfl,hv,hr⟩:=hp
 have HV:=ξ hv
 have HR:=ξ hr
 obtain⟨_,_,_,hvb1,hvb2⟩:=SlL.parts hv
 obtain⟨_,_,_,hrb1,hrb2⟩:=hr.parts
 clear hv hr
 have B0:=Ja.new w #[.slice va p.vars.length vc,.slice vb p.rows.length vd] 25
 have HB:=ξ B0
 unfold prgV
 clear B0
 by_cases h0:j < 0
 ·go_enter Tryz.func259,Tryz.ntmps259
  go_wp2_with fail
  generalize w.heap.size=bp at HB ⊢
  generalize w.alloc _=W at HB ⊢
  have G:=ξ HB.out.1
  have TP:=ξ HB.out.2
  clear HB
  go_ret
  exact⟨_,rfl,G.out,Jb.no fun⟨x,h,_⟩=>by omega⟩
 have h0':0≤j:=by omega
 by_cases h1:(p.vars.length:Int)≤j
 ·clear h0
  go_enter Tryz.func259,Tryz.ntmps259
  go_wp2_with fail
  generalize w.heap.size=bp at HB ⊢
  generalize w.alloc _=W at HB ⊢
  have G:=ξ HB.out.1
  have TP:=ξ HB.out.2
  clear HB
  go_ret
  exact⟨_,rfl,G.out,by simpa[h1] using(Jb.no (P:=Kw p j) fun⟨x,h,h2,_⟩=>by have:=(List.getElem?_eq_some_iff.1 h2).1;omega)⟩
 have h1':j < (p.vars.length:Int):=by omega
 obtain⟨k,rfl⟩:∃ k:Nat,j=k:=⟨j.toNat,by omega⟩
 obtain⟨b,o,x,rfl,hx,hc⟩:=Mn HV.out rfl (show k < p.vars.length by omega)
 obtain⟨c0,c1,c2,c3,c4⟩:=hc _ HB.out.1
 have HX:=ξ hx
 obtain⟨ig,hig⟩:∃ b,x.ig=b:=⟨_,rfl⟩
 obtain⟨op,hop⟩:∃ b,x.op=b:=⟨_,rfl⟩
 obtain⟨lo,hlo⟩:∃ b,x.lo=b:=⟨_,rfl⟩
 obtain⟨up,hup⟩:∃ b,x.up=b:=⟨_,rfl⟩
 rw[hig] at c3
 rw[hop] at c2
 rw[hlo] at c0
 rw[hup] at c1
 have HI:=ξ (show Kw p (k:Int)↔ig=true∧op=false∧lo=0∧up=1 from by
  subst hig hop hlo hup
  constructor
  ·intro ⟨z,_,hz,h2⟩
   rw[Int.toNat_natCast,hx] at hz
   cases hz
   exact h2
  ·intro h
   exact⟨x,by omega,by rw[Int.toNat_natCast];exact hx,h⟩)
 clear hx hc hig hop hlo hup h0 h1
 cases ig
 ·have H:=ξ (show ¬ Kw p (k:Int) from fun h=>by have:=(HI.out.1 h).1;cases this)
  go_enter Tryz.func259,Tryz.ntmps259
  go_wp2_with fail
  go_ret
  exact⟨_,rfl,HB.out.1,Jb.no H.out⟩
 cases op
 rotate_left
 ·have H:=ξ (show ¬ Kw p (k:Int) from fun h=>by have:=(HI.out.1 h).2.1;cases this)
  go_enter Tryz.func259,Tryz.ntmps259
  go_wp2_with fail
  go_ret
  exact⟨_,rfl,HB.out.1,Jb.no H.out⟩
 by_cases hl:lo=0
 ·subst hl
  by_cases hu:up=1
  ·subst hu
   have H:=ξ (show Kw p (k:Int) from HI.out.2 ⟨rfl,rfl,rfl,rfl⟩)
   go_enter Tryz.func259,Tryz.ntmps259
   go_wp2_with fail
   go_ret
   exact⟨_,rfl,HB.out.1,Jb.yes H.out⟩
  ·have e1:(up == 1)=false:=by simpa using hu
   have H:=ξ (show ¬ Kw p (k:Int) from fun h=>hu (HI.out.1 h).2.2.2)
   clear hu
   go_enter Tryz.func259,Tryz.ntmps259
   go_wp2_with fail
   go_ret
   exact⟨_,rfl,HB.out.1,Jb.no H.out⟩
 ·have e1:(lo == 0)=false:=by simpa using hl
  have H:=ξ (show ¬ Kw p (k:Int) from fun h=>hl (HI.out.1 h).2.2.1)
  clear hl
  go_enter Tryz.func259,Tryz.ntmps259
  go_wp2_with fail
  go_ret
  exact⟨_,rfl,HB.out.1,Jb.no H.out⟩
theorem Vn (w:World)(va:Value)(z:Int)(h:IntC w va z):
  Calls Tryz.prog 251 #[va] w (Ret w fun r w'=>RatC w' r (z:Rat)):=by
 obtain⟨p8,k8,c8,rfl⟩:=h.agg
 obtain⟨s8,hs⟩:∃ s,decide (z < 0)=s:=⟨_,rfl⟩
 rw[hs] at h ⊢
 have H:=ξ h
 obtain⟨g1,t0,t1⟩:=box23 w (.bool s8) (.slice p8 k8 c8) (.bool s8) (.slice p8 k8 c8) (.slice none 0 0) 66 68
 have HB:=ξ (And.intro g1 (And.intro t1 (RatC.ofInt (h.grow g1))))
 clear h g1 t0 t1 hs
 go_enter Tryz.func251,Tryz.ntmps251
 go_wp2_with fail
 generalize w.heap.size+1=b5 at HB ⊢
 generalize (w.alloc _).alloc _=W5 at HB ⊢
 have T0_0:=HB.out.2.1.load.1
 have T0_1:=HB.out.2.1.load.2.1
 have T0_2:=HB.out.2.1.load.2.2
 refine bodyPost_ret (by simp[results,Tryz.results251,go_sem,T0_0,T0_1,T0_2];rfl) rfl ?_
 exact⟨_,rfl,HB.out.1,HB.out.2.2⟩
def J1i (z:Int)(r:Value):Prop:=∃ n t,r = .tuple #[.int .i64 n,.bool t]∧(t=true↔In z)∧(t=true→n=z)
theorem Vm (w:World)(va:Value)(z:Int)(L:Nat)(h:RatV w va (z:Rat) L)(hL:L≤1000):
  Calls Tryz.prog 254 #[va] w (Ret w fun r _=>J1i z r):=by
 have HV:=ξ h
 obtain⟨s1,p1,k1,c1,e1,m1,n1,rfl⟩:=h.agg
 clear h
 have B:=box3 w (.bool s1) (.slice p1 k1 c1) (.slice e1 m1 n1) 68
 have HB:=ξ B
 have y0:=B.2.load.1
 have y1:=B.2.load.2.1
 have y2:=B.2.load.2.2
 clear B
 go_enter Tryz.func254,Tryz.ntmps254
 go_wp2_with fail
 clear y0 y1 y2
 generalize w.alloc _=W at HB ⊢
 obtain⟨t,ht⟩:∃ t,fits z=t:=⟨_,rfl⟩
 refine(J5d W _ (z:Rat) t L (HV.out.grow HB.out.1) (by rw[← ht];simp) hL).mono ?_
 rintro _ w1 ⟨_,rfl,g1,rfl⟩
 have G:=ξ (HB.out.1.trans g1)
 rw[show(z:Rat).num=z from rfl]
 clear g1
 cases t
 ·have HN:=ξ (show ¬ In z from fun h=>by
   have:=Js h
   unfold fits at ht
   simp at ht
   omega)
  simp only[Bool.false_eq_true,if_false]
  go_wp2_with fail
  refine bodyPost_ret (by simp[results,Tryz.results254,go_sem];rfl) rfl ?_
  exact⟨_,rfl,G.out,0,false,rfl,by simp[HN.out],fun h=>by cases h⟩
 ·simp only[if_true]
  by_cases h1 : -1099511627776≤z
  ·by_cases h2:z≤1099511627776
   ·have HI:=ξ (show In z from⟨h1,h2⟩)
    go_wp2_with fail
    refine bodyPost_ret (by simp[results,Tryz.results254,go_sem];rfl) rfl ?_
    exact⟨_,rfl,G.out,z,true,rfl,by simp[HI.out],fun _=>rfl⟩
   ·have HI:=ξ (show ¬ In z from fun h=>h2 h.2)
    go_wp2_with fail
    refine bodyPost_ret (by simp[results,Tryz.results254,go_sem];rfl) rfl ?_
    exact⟨_,rfl,G.out,z,false,rfl,by simp[HI.out],fun h=>by cases h⟩
  ·have HI:=ξ (show ¬ In z from fun h=>h1 h.1)
   go_wp2_with fail
   refine bodyPost_ret (by simp[results,Tryz.results254,go_sem];rfl) rfl ?_
   exact⟨_,rfl,G.out,z,false,rfl,by simp[HI.out],fun h=>by cases h⟩
theorem Yk (w:World)(a q:Option Addr)(c n cq:Nat)(vs:List VarM)(A:Nat→Int)(hn:vs.length=n)(hv:K3 w (.slice a n c) vs)(ha:Ke w (.slice q n cq) n (fun j=>(A j:Rat)) 80)(hk:Jr ⟨vs,[]⟩)(hw:Whole ⟨vs,[]⟩)
  (hA:∀ j,In (A j)) (h10:n≤10):
  Calls Tryz.prog 91 #[.agg #[.slice a n c,.slice none 0 0],.slice q n cq] w (Ret w fun r w'=>(Mb vs∧r = .tuple #[.agg #[.bool false,.slice none 0 0,.slice none 0 0],.bool false])∨(¬ Mb vs∧∃ u,r = .tuple #[u,.bool true]∧RatC w' u (leastS vs fun j=>(A j:Rat)))):=by
 subst hn
 have hz:=Uk hk.2.2.1 hA h10
 exact Yj w _ ⟨vs,[]⟩ q cq _ ⟨a,c,none,0,rfl,hv,[],SlL.nil w,rfl,by simp⟩ ha hk hw hz.1 hz.2
structure CvSt (W w:World)(br b7 bg b10 n cap:Nat)(cr:Array Value)(u0 u1:Value)(bp:Nat)(vs:List VarM)(s:Rat):Prop where
 cv:Lx W w b7 bg n cap vs
 tp:Ja w bp #[u0,u1]
 tr:Ja w br cr
 t10:J6 w b10 s
section
variable {W w w':World}{br b7 bg b10 n cap:Nat}{cr:Array Value}{u0 u1:Value}{bp:Nat}{vs:List VarM}{s:Rat}
theorem CvSt.grow (h:CvSt W w br b7 bg b10 n cap cr u0 u1 bp vs s)(g:Gr w w'):CvSt W w' br b7 bg b10 n cap cr u0 u1 bp vs s:=⟨h.cv.grow g,h.tp.grow g,h.tr.grow g,h.t10.grow g⟩
theorem Lx.setO (h:Lx W w b7 bg n cap vs){bo k:Nat}(t:RatM)(h1:W.heap.size≤bo)(h2:b7≠bo)(h3:bg≠bo):Lx W (setRat w bo k t) b7 bg n cap vs:=by
 refine⟨Qq h.g h1 k t,h.tq.upd (Oy _ _ _ _) h2,?_⟩
 unfold setRat
 have hne:(Value.slice (some ⟨bg,0,none⟩) n cap).ownBlock≠some bo:=fun e=>h3 (Option.some.inj e)
 exact((h.ro.other hne).other hne).other hne
theorem CvSt.setO (h:CvSt W w br b7 bg b10 n cap cr u0 u1 bp vs s){bo k:Nat}(t:RatM)(hb:Ki w bo)(h1:W.heap.size≤bo)(h2:b7≠bo)(h3:bg≠bo)(h4:bp≠bo)(h5:br≠bo)(h6:b10≠bo):CvSt W (setRat w bo k t) br b7 bg b10 n cap cr u0 u1 bp vs s:=
 have hu:=Oy w bo k t
 ⟨h.cv.setO t h1 h2 h3,h.tp.upd hu h4,h.tr.upd hu h5,h.t10.upd hb hu h6⟩
theorem CvSt.putS (h:CvSt W w br b7 bg b10 n cap cr u0 u1 bp vs s){s':Rat}{t:RatM}(k:b7≠b10∧bg≠b10∧bp≠b10∧br≠b10∧W.heap.size≤b10)(ht:RatC w t.v s'):CvSt W (set3 w b10 (.bool t.n) (.slice t.p t.k t.c) (.slice t.q t.m t.e)) br b7 bg b10 n cap cr u0 u1 bp vs s':=by
 have hu:=upd3 w b10 (.bool t.n) (.slice t.p t.k t.c) (.slice t.q t.m t.e)
 have hne:(Value.slice (some ⟨bg,0,none⟩) n cap).ownBlock≠some b10:=fun e=>k.2.1 (Option.some.inj e)
 refine⟨⟨Ko h.cv.g k.2.2.2.2 _ _ _,h.cv.tq.upd hu k.1,?_⟩,h.tp.upd hu k.2.2.1,h.tr.upd hu k.2.2.2.1,h.t10.put ht⟩
 unfold set3
 exact((h.cv.ro.other hne).other hne).other hne
end
theorem J1J (w:World)(v:Value)(p:Prg)(x:RowM)(l:List Int)(pv:Option Addr)(cv:Nat)(hp:Jv w v p)(hx:Mv w x)(hro:Kb p.vars.length x.s)(hk:Jr p)(hw:Whole p)(hn:p.vars.length≤10)
  (hb:∀ v ∈ l,Kw p v) (hl:K5 w (.slice pv l.length cv) l) (hne:l≠[]) (hll:l.length≤1000000):
  Calls Tryz.prog 256 #[v,rowV x,.slice pv l.length cv] w (Ret w fun r _=>Jb (Mp p.vars x.s l) r):=by
 have HK:=ξ hk
 have HW:=ξ hw
 have HL:=ξ hl
 have HBI:=ξ hb
 have HNE:=ξ hne
 have HRO:=ξ hro
 have HX:=ξ hx
 have hpos:0 < p.vars.length:=by
  cases l with
  | nil=>exact absurd rfl hne
  | cons a l=>
   have:=Qe (hb a (List.mem_cons_self ..))
   omega
 clear hk hw hl hb hne hro hx
 obtain⟨va,vc,vb,vd,rfl,hv,hr⟩:=hp
 have HV:=ξ hv
 clear hv hr
 have B0:=Ja.new w #[.slice va p.vars.length vc,.slice vb p.rows.length vd] 25
 have B1:=Ja.new (w.alloc (.cells #[.slice va p.vars.length vc,.slice vb p.rows.length vd] 25)) #[.string ⟨x.name.toArray⟩,.int .i64 x.group,.int .i64 x.kind,.slice x.tp x.terms.length x.tc,.int .i64 x.bound] 42
 simp only[World.size_alloc] at B1
 have HB:=ξ (show Gr w _∧Ja _ w.heap.size #[.slice va p.vars.length vc,.slice vb p.rows.length vd]∧Ja _ (w.heap.size+1) #[.string ⟨x.name.toArray⟩,.int .i64 x.group,.int .i64 x.kind,.slice x.tp x.terms.length x.tc,.int .i64 x.bound] from⟨B0.1.trans B1.1,B0.2.grow B1.1,B1.2⟩)
 clear B0 B1
 unfold prgV rowV
 go_enter Tryz.func256,Tryz.ntmps256
 go_wp2_with fail
 generalize hbr:w.heap.size+1=br at HB ⊢
 generalize hbp:w.heap.size=bp at HB ⊢
 generalize (w.alloc _).alloc _=W at HB ⊢
 have G:=ξ HB.out.1
 have TP:=ξ HB.out.2.1
 have TR:=ξ HB.out.2.2
 clear HB hbr hbp
 refine(R2 W va p.vars.length vc p.vars (SlL.grow HV.out G.out) rfl (by omega)).mono ?_
 rintro _ w2 ⟨_,rfl,g2,pg,cg,rfl,ho2⟩
 obtain⟨bg,cap,hvg,hbg,hbg2,hcg,hcg2⟩:=OwnL.made ho2 hpos
 injection hvg with e1 e2 e3
 subst e1 e3
 have B7:=Ja.new w2 #[.slice (some ⟨bg,0,none⟩) p.vars.length cg,.slice none 0 0] 25
 have HLT:=ξ (show w.heap.size≤W.heap.size∧bp < W.heap.size∧br < W.heap.size∧W.heap.size≤bg∧bg < w2.heap.size∧W.heap.size≤w2.heap.size from⟨G.out.size,TP.out.lt,TR.out.lt,hbg,hbg2,g2.size⟩)
 have HS0:=ξ (show Lx w (w2.alloc (.cells #[.slice (some ⟨bg,0,none⟩) p.vars.length cg,.slice none 0 0] 25)) w2.heap.size bg p.vars.length cg p.vars from
  ⟨(G.out.trans g2).trans B7.1,B7.2,OwnL.low (ho2.grow B7.1) G.out.size⟩)
 have TP:=ξ (TP.out.grow (g2.trans B7.1))
 have TR:=ξ (TR.out.grow (g2.trans B7.1))
 have HN7:=ξ (show w2.heap.size≠bg∧w.heap.size≤bg∧bp≠bg∧br≠bg from by have:=HLT.out;omega)
 have HN7':=ξ (show bp≠w2.heap.size∧br≠w2.heap.size∧w.heap.size≤w2.heap.size from by have:=HLT.out;omega)
 clear ho2 g2 B7 hbg hbg2 G
 go_wp2_with fail
 generalize w2.heap.size=b7 at HS0 HN7 HN7' HLT ⊢
 generalize w2.alloc _=W3 at HS0 TP TR ⊢
 go_loopw [22] (fun i w9=>∃ k:Nat,i = .int .i64 (k:Int)∧k≤l.length∧Lx w w9 b7 bg p.vars.length cg (lowAll p.vars (l.take k))∧Ja w9 bp #[.slice va p.vars.length vc,.slice vb p.rows.length vd]∧Ja w9 br #[.string ⟨x.name.toArray⟩,.int .i64 x.group,.int .i64 x.kind,.slice x.tp x.terms.length x.tc,.int .i64 x.bound]) (fun i _=>l.length - (RowKit.intOf i).toNat)
 case atStart=>exact⟨0,rfl,Nat.zero_le _,HS0.out,TP.out,TR.out⟩
 case round=>
  clear HS0 TP TR
  obtain⟨k,rfl,hk,hq,hq2,hq3⟩:=hrel
  have HS:=ξ hq
  have TP:=ξ hq2
  have TR:=ξ hq3
  clear hq hq2 hq3
  by_cases hlt:k < l.length
  ·have hlt':(k:Int) < (l.length:Int):=by omega
   have hk1:IntKind.i64.wrap ((k:Int)+1)=(k:Int)+1:=by rw[IntKind.wrap_i64];omega
   obtain⟨b,o,z,rfl,hz,hcz⟩:=L2 HL.out rfl hlt
   have HBZ:=ξ (HBI.out z (List.mem_of_getElem? hz))
   have hzr:=Qe HBZ.out
   obtain⟨zn,rfl⟩:∃ n:Nat,z=(n:Int):=⟨z.toNat,by omega⟩
   have hzl:zn < (lowAll p.vars (l.take k)).length:=by rw[Ni];omega
   have hzn:(zn:Int) < (p.vars.length:Int):=hzr.2
   have hzn2:zn < p.vars.length:=by omega
   obtain⟨y,hy⟩:∃ y,(lowAll p.vars (l.take k))[zn]?=some y:=⟨_,List.getElem?_eq_getElem hzl⟩
   have HZ:=ξ hz
   have HY:=ξ hy
   have z0:=hcz wr HS.out.g
   have q0:=HS.out.tq.at 0 rfl
   clear hzr hzl hz hcz
   obtain⟨r1,r2,r3,r4,r5⟩:=OwnL.putS Nf HS.out.ro { y with lo:=1 } 0 (.int .i64 1) hy (by decide) rfl
   rw[Nat.add_zero] at r3 r4 r5
   have r3':wr.cell? ⟨bg,zn * 5,none⟩=some (.int .i64 y.lo):=r3
   have HNX:=ξ (show Lx w (wr.setCell ⟨bg,zn * 5,none⟩ (.int .i64 1)) b7 bg p.vars.length cg (lowAll p.vars (l.take (k+1)))∧Ja (wr.setCell ⟨bg,zn * 5,none⟩ (.int .i64 1)) bp _∧Ja (wr.setCell ⟨bg,zn * 5,none⟩ (.int .i64 1)) br _ from
    ⟨⟨Gr.set HS.out.g (by have:=HN7.out.2.1;omega) _,HS.out.tq.upd (J8 _ _ _ _) HN7.out.1,by rw[J3P HZ.out,J5X HY.out];exact r5⟩,TP.out.upd (J8 _ _ _ _) HN7.out.2.2.1,TR.out.upd (J8 _ _ _ _) HN7.out.2.2.2⟩)
   clear r1 r2 r3 r5 hy
   go_wp2_with fail
   generalize wr.setCell _ _=W5 at HNX ⊢
   clear r3' r4 q0 z0
   exact⟨⟨k+1,by go_num,by omega,HNX.out.1,HNX.out.2.1,HNX.out.2.2⟩,by simp[RowKit.intOf];omega⟩
  ·obtain rfl:k=l.length:=by omega
   have HS:=ξ (show Lx w wr b7 bg p.vars.length cg (lowAll p.vars l) from by have:=HS.out;rwa [List.take_length] at this)
   go_wp2_with fail
   refine(Lu wr 1 (by decide) (by decide)).mono ?_
   rintro _ w4 ⟨r4,rfl,g4,h4⟩
   obtain⟨s8,p8,k8,c8,e8,m8,n8,rfl⟩:=h4.agg
   have B10:=box3 w4 (.bool s8) (.slice p8 k8 c8) (.slice e8 m8 n8) 68
   have HN10:=ξ (show b7≠w4.heap.size∧bg≠w4.heap.size∧bp≠w4.heap.size∧br≠w4.heap.size∧w.heap.size≤w4.heap.size from by
    have h1:=(HS.out.grow g4).tq.lt
    have h2:=(TP.out.grow g4).lt
    have h3:=(TR.out.grow g4).lt
    have h5:=(HS.out.grow g4).g.size
    have h6:=(World.ownsRow.lt (HS.out.grow g4).ro bg rfl).2
    exact⟨by omega,by omega,by omega,by omega,h5⟩)
   have HS:=ξ (show CvSt w (w4.alloc (.cells #[.bool s8,.slice p8 k8 c8,.slice e8 m8 n8] 68)) br b7 bg w4.heap.size p.vars.length cg #[.string ⟨x.name.toArray⟩,.int .i64 x.group,.int .i64 x.kind,.slice x.tp x.terms.length x.tc,.int .i64 x.bound] (.slice va p.vars.length vc) (.slice vb p.rows.length vd) bp (lowAll p.vars l) ((1:Int):Rat) from
    ⟨HS.out.grow (g4.trans B10.1),TP.out.grow (g4.trans B10.1),TR.out.grow (g4.trans B10.1),⟨⟨s8,p8,k8,c8,e8,m8,n8⟩,B10.2,by have:=h4.grow B10.1;exact this⟩⟩)
   clear h4 g4 B10 TP TR
   obtain⟨kd,hkd⟩:∃ k,x.kind=k:=⟨_,rfl⟩
   have HKD:=ξ (show sgnR x.s=if kd=1 then -1 else 1 from by unfold sgnR;rw[show x.s.kind=kd from hkd])
   have y2:(w4.alloc (.cells #[.bool s8,.slice p8 k8 c8,.slice e8 m8 n8] 68)).cell? ⟨br,2,none⟩=some (.int .i64 kd):=by rw[← hkd];exact HS.out.tr.at 2 rfl
   clear hkd
   by_cases h1:kd=1
   ·subst h1
    have HSG:=ξ (show sgnR x.s = -1 from by rw[HKD.out,if_pos rfl])
    go_wp2_with fail
    clear y2
    generalize w4.heap.size=b10 at HS HN10 ⊢
    generalize w4.alloc _=W4 at HS ⊢
    refine(Lu W4 (-1) (by decide) (by decide)).mono ?_
    rintro _ w5 ⟨r5,rfl,g5,h5⟩
    obtain⟨s9,p9,k9,c9,e9,m9,n9,rfl⟩:=h5.agg
    have HS:=ξ (HS.out.grow g5)
    obtain⟨t1,h7,-⟩:=HS.out.t10
    have f0:=h7.load.1
    have f1:=h7.load.2.1
    have f2:=h7.load.2.2
    have f3:=h7.f0 0
    have f4:=h7.f0 1
    have f5:=h7.f0 2
    have y0:=HS.out.tp.at 0 rfl
    have hne1:¬ bp=b10:=HN10.out.2.2.1
    have hne2:¬ b10=bp:=fun e=>hne1 e.symm
    have HS:=ξ (HS.out.putS (t:=⟨s9,p9,k9,c9,e9,m9,n9⟩) HN10.out h5)
    clear h5 g5 h7
    go_wp2_with (at_make;refine Hold.hold ?_)
    unfold set3 at HS
    try dsimp only at HS
    generalize ((w5.setCell _ _).setCell _ _).setCell _ _=W5 at HS ⊢
    clear f0 f1 f2 f3 f4 f5 y0 hne1 hne2
    refine Hold.go ?_
    refine Rk rfl _ _ 33 rfl (by kernel_rfl) p.vars.length _ rfl rfl rfl (by omega) ?_
    intro W6 ho g6
    have HNO:=ξ (show w.heap.size≤W5.heap.size∧b7≠W5.heap.size∧bg≠W5.heap.size∧bp≠W5.heap.size∧br≠W5.heap.size∧b10≠W5.heap.size from by
     have h1:=HS.out.cv.tq.lt
     have h2:=HS.out.tp.lt
     have h3:=HS.out.tr.lt
     have h5:=HS.out.cv.g.size
     have h6:=(World.ownsRow.lt HS.out.cv.ro bg rfl).2
     have h7:=HS.out.t10.lt
     exact⟨h5,by omega,by omega,by omega,by omega,by omega⟩)
    have HS:=ξ (HS.out.grow g6)
    have HO:=ξ ho
    generalize W5.heap.size=bo at HO HNO ⊢
    have y3:=HS.out.tr.at 3 rfl
    have htb:=Lp.big HX.out
    clear ho g6
    go_wp2_with fail
    clear y3
    go_loopw [44] (fun i w9=>∃ m:Nat,i = .int .i64 (m:Int)∧m≤x.terms.length∧CvSt w w9 br b7 bg b10 p.vars.length cg #[.string ⟨x.name.toArray⟩,.int .i64 x.group,.int .i64 x.kind,.slice x.tp x.terms.length x.tc,.int .i64 x.bound] (.slice va p.vars.length vc) (.slice vb p.rows.length vd) bp (lowAll p.vars l) (((-1):Int):Rat)∧Jo w9 bo p.vars.length (fun j=>(((-1) * rowCoef (x.terms.take m) j:Int):Rat)) 80) (fun i _=>x.terms.length - (RowKit.intOf i).toNat)
    case atStart=>exact⟨0,rfl,Nat.zero_le _,HS.out,HO.out.congr fun j _=>by simp[rowCoef]⟩
    case round=>
     clear HS HO
     obtain⟨m,rfl,hm2,hq,hq2⟩:=hrel
     have HS:=ξ hq
     have HO:=ξ hq2
     clear hq hq2
     by_cases hlm:m < x.terms.length
     ·have hlm':(m:Int) < (x.terms.length:Int):=by omega
      obtain⟨bt,ot,tm,htp,ht,hct⟩:=P2 HX.out rfl hlm
      obtain⟨d0,d1⟩:=hct _ HS.out.cv.g
      have HT:=ξ ht
      have HTV:=ξ (Nh (Int.le_refl _) HRO.out.2.2.2.2.2 tm (List.mem_of_getElem? ht))
      have HTC:=ξ (Ng _ _ _ _ ht HRO.out.2.2.2.2.2)
      obtain⟨jn,hjn⟩:∃ jn:Nat,tm.v=(jn:Int):=⟨tm.v.toNat,by have:=HTV.out.1;omega⟩
      have hjl:jn < p.vars.length:=by have:=HTV.out.2;omega
      have hjl':(jn:Int) < (p.vars.length:Int):=by omega
      have hj0:(0:Int)≤(jn:Int):=by omega
      have HZR:=ξ (show rowCoef (x.terms.take m) jn=0 from Tw _ _ fun z hz=>by have:=S0 _ _ _ _ ht HRO.out.2.2.2.2.2 z hz;omega)
      rw[hjn] at d0
      have HJ:=ξ hjn
      have BT:=Ja.new wr #[.int .i64 (jn:Int),.int .i64 tm.c] 75
      have HBT:=ξ BT.2
      have HS:=ξ (HS.out.grow BT.1)
      have HO:=ξ (HO.out.grow BT.1)
      have HTP:=ξ htp
      rw[htp]
      clear ht hct hjn htp BT
      go_wp2_with fail
      clear d0 d1
      generalize wr.heap.size=bt2 at HBT ⊢
      generalize wr.alloc _=W7 at HBT HS HO ⊢
      have d0:=HBT.out.c 0 rfl
      have d1:=HBT.out.c 1 rfl
      obtain⟨ts,h7,hts⟩:=HS.out.t10
      have HTS:=ξ hts
      have i0:=h7.c0
      have i1:=h7.c1
      have i2:=h7.c2
      have g0:Gr W7 W7.drew:=(Gr.refl _).drew
      have GZ:=ξ g0
      clear h7 hts
      refine Jp [(0,true),(1,true),(2,true),(3,true),(4,true),(5,true),(6,false),(7,false),(8,true),(9,false)] (by kernel_rfl) (by kernel_rfl) rfl (by kernel_rfl) (fun _ _ d _ _ h=>by cases d<;>exact h) ?_
      repeat(refine Jf (v:=?_) g0 rfl rfl (fun w' hg=>?_) (fun K hK=>?_);rotate_left;(go_simp;rfl);go_simp;refine hK _ _ ?_;clear hK K)
      refine Jd (args:=?_) rfl rfl rfl rfl rfl rfl (by kernel_rfl) (by kernel_rfl) ?_ (fun K hK=>?_)
      rotate_left
      ·go_simp;rfl
      refine(Lu _ tm.c (Js HTC.out.2.2.2).1 (Js HTC.out.2.2.2).2).mono ?_
      rintro _ w8 ⟨r1,rfl,g1,h1⟩
      refine⟨_,rfl,g1,?_⟩
      go_simp
      refine hK _ _ ?_
      clear hK K
      have GZ:=ξ (GZ.out.trans g1)
      refine Jd (args:=?_) rfl rfl rfl rfl rfl rfl (by kernel_rfl) (by kernel_rfl) ?_ (fun K hK=>?_)
      rotate_left
      ·go_simp;rfl
      refine(Nn _ _ _ (((-1):Int):Rat) (tm.c:Rat) (((-1) * tm.c:Int):Rat) 2 2 (RatC.v (HTS.out.grow GZ.out) (Ky (show In (-1) by unfold In;decide))) (h1.v (Ky HTC.out.2.2.2)) (Rat.intCast_mul _ _).symm (by decide) (by decide)).mono ?_
      rintro _ w9 ⟨r2,rfl,g2,h2⟩
      refine⟨_,rfl,g2,?_⟩
      go_simp
      refine hK _ _ ?_
      clear hK K
      have GZ:=ξ (GZ.out.trans g2)
      clear h1
      have g4:=GZ.out
      repeat(refine Jf (v:=?_) g4 rfl rfl (fun w' hg=>?_) (fun K hK=>?_);rotate_left;(go_simp;rfl);go_simp;refine hK _ _ ?_;clear hK K)
      have HS:=ξ (HS.out.grow GZ.out)
      have HO:=ξ (HO.out.grow GZ.out)
      obtain⟨s9,p9,k9,c9,e9,m9,n9,rfl⟩:=h2.agg
      obtain⟨t1,-,hc1⟩:=HO.out.at hjl
      obtain⟨f0,f1,f2⟩:=hc1 w9 (Gr.refl _)
      have f3:=HO.out.f (jn * 3)
      have f4:=HO.out.f (jn * 3+1)
      have f5:=HO.out.f (jn * 3+2)
      have HNX:=ξ (And.intro (HS.out.setO (k:=jn) ⟨s9,p9,k9,c9,e9,m9,n9⟩ HO.out.noInt HNO.out.1 HNO.out.2.1 HNO.out.2.2.1 HNO.out.2.2.2.1 HNO.out.2.2.2.2.1 HNO.out.2.2.2.2.2) (show Jo (setRat w9 bo jn ⟨s9,p9,k9,c9,e9,m9,n9⟩) bo p.vars.length (fun j=>(((-1) * rowCoef (x.terms.take (m+1)) j:Int):Rat)) 80 from
       HO.out.set hjl (t:=⟨s9,p9,k9,c9,e9,m9,n9⟩) (by
        show RatV w9 _ (((-1) * rowCoef (x.terms.take (m+1)) jn:Int):Rat) 80
        rw[Ow HT.out,if_pos HJ.out,HZR.out,Int.zero_add]
        exact h2.v (Sz.mono' (Ky (Oz (sg:=(-1)) (by decide) HTC.out.2.2.2).1) (by decide))) (fun i hi hne=>by
        show(((-1) * rowCoef (x.terms.take m) i:Int):Rat)=(((-1) * rowCoef (x.terms.take (m+1)) i:Int):Rat)
        rw[Ow HT.out,if_neg (by rw[HJ.out];omega),Int.add_zero])))
      clear h2 hc1 d0 d1 i0 i1 i2
      refine Jj rfl rfl (fun K hK=>?_)
      go_simp
      refine⟨fun h=>Bool.noConfusion h,hK _ _ ?_⟩
      clear hK K
      unfold setRat at HNX
      dsimp only at HNX
      generalize ((w9.setCell _ _).setCell _ _).setCell _ _=W9 at HNX ⊢
      refine Ji ?_
      clear f0 f1 f2 f3 f4 f5 g0 g1 g2 g4
      have hk1:IntKind.i64.wrap ((m:Int)+1)=(m:Int)+1:=by rw[IntKind.wrap_i64];omega
      go_wp2_with fail
      exact⟨⟨m+1,by go_num,by omega,by have h:=HNX.out.1;rw[HTP.out] at h;exact h,HNX.out.2⟩,by simp[RowKit.intOf];omega⟩
     ·obtain rfl:m=x.terms.length:=by omega
      have HO:=ξ (show Jo wr bo p.vars.length (fun j=>(((-1) * rowCoef x.terms j:Int):Rat)) 80 from by have:=HO.out;rwa [List.take_length] at this)
      have HRF:=ξ (HO.out.read (by omega))
      have q0:=HS.out.cv.tq.at 0 rfl
      have q1:=HS.out.cv.tq.at 1 rfl
      have HIN:=ξ (show ∀ j,In ((-1) * rowCoef x.s.terms j) from fun j=>(Oz (sg:=(-1)) (by decide) (Kb.coefs HRO.out j)).1)
      go_wp2_with fail
      clear q0 q1
      refine(Yk wr _ _ _ _ _ (lowAll p.vars l) (fun j=>(-1) * rowCoef x.s.terms j) (Ni _ _) (OwnL.read HS.out.cv.ro) HRF.out (Oo l HK.out HW.out).1 (Oo l HK.out HW.out).2 HIN.out hn).mono ?_
      rintro _ w6 ⟨r6,rfl,g6,h6⟩
      rcases h6 with⟨he,rfl⟩|⟨he,u,rfl,hu⟩
      ·have H:=ξ (show ¬ Mp p.vars x.s l from fun h=>h.1 he)
       have GG:=ξ ((HS.out.cv.g.trans g6).trans (show Gr w6 (w6.alloc (.cells #[.bool false,.slice none 0 0,.slice none 0 0] 68)) from(Gr.refl _).alloc _))
       clear he g6
       go_wp2_with fail
       generalize w6.alloc _=W8 at GG ⊢
       have g0:Gr W8 W8.drew:=(Gr.refl _).drew
       have GG:=ξ (GG.out.trans g0)
       refine Jp [(0,true),(1,true),(2,true),(3,true),(4,true),(5,true),(6,false),(7,false),(8,false),(9,true),(10,true),(11,true)] (by kernel_rfl) (by kernel_rfl) rfl (by kernel_rfl) (fun _ _ d _ _ h=>by cases d<;>exact h) ?_
       repeat(first|(refine Ka rfl rfl ?_;go_simp)|(refine Jf (v:=?_) g0 rfl rfl (fun w' hg=>?_) (fun K hK=>?_);rotate_left;(go_simp;rfl);go_simp;refine hK _ _ ?_;clear hK K))
       refine Ji ?_
       clear g0
       go_wp2_with fail
       go_ret
       exact⟨_,rfl,GG.out,Jb.no H.out⟩
      ·obtain⟨s9,p9,k9,c9,e9,m9,n9,rfl⟩:=hu.agg
       have B14:=box3 w6 (.bool s9) (.slice p9 k9 c9) (.slice e9 m9 n9) 68
       have T14:=ξ B14.2
       have HU:=ξ (hu.grow B14.1)
       have HS:=ξ (HS.out.grow (g6.trans B14.1))
       have HE:=ξ he
       clear he hu g6 B14
       go_wp2_with fail
       generalize w6.heap.size=b14 at T14 ⊢
       generalize w6.alloc _=W8 at T14 HU HS ⊢
       have d0:=T14.out.c0
       have d1:=T14.out.c1
       have d2:=T14.out.c2
       have d3:=HS.out.tr.c 4 rfl
       obtain⟨ts,h7,hts⟩:=HS.out.t10
       have HTS:=ξ hts
       have i0:=h7.c0
       have i1:=h7.c1
       have i2:=h7.c2
       have g0:Gr W8 W8.drew:=(Gr.refl _).drew
       have GZ:=ξ g0
       clear h7 hts
       refine Jp [(0,true),(1,true),(2,true),(3,true),(4,true),(5,true),(6,false),(7,false),(8,false),(9,true),(10,true),(11,true)] (by kernel_rfl) (by kernel_rfl) rfl (by kernel_rfl) (fun _ _ d _ _ h=>by cases d<;>exact h) ?_
       repeat(refine Jf (v:=?_) g0 rfl rfl (fun w' hg=>?_) (fun K hK=>?_);rotate_left;(go_simp;rfl);go_simp;refine hK _ _ ?_;clear hK K)
       refine Jd (args:=?_) rfl rfl rfl rfl rfl rfl (by kernel_rfl) (by kernel_rfl) ?_ (fun K hK=>?_)
       rotate_left
       ·go_simp;rfl
       refine(Lu _ x.bound (Js HRO.out.2.2.2.1).1 (Js HRO.out.2.2.2.1).2).mono ?_
       rintro _ w8 ⟨r1,rfl,g1,h1⟩
       refine⟨_,rfl,g1,?_⟩
       go_simp
       refine hK _ _ ?_
       clear hK K
       have GZ:=ξ (GZ.out.trans g1)
       refine Jd (args:=?_) rfl rfl rfl rfl rfl rfl (by kernel_rfl) (by kernel_rfl) ?_ (fun K hK=>?_)
       rotate_left
       ·go_simp;rfl
       refine(Nn _ _ _ (((-1):Int):Rat) (x.bound:Rat) (((-1) * x.bound:Int):Rat) 2 2 (RatC.v (HTS.out.grow GZ.out) (Ky (show In (-1) by unfold In;decide))) (h1.v (Ky HRO.out.2.2.2.1)) (Rat.intCast_mul _ _).symm (by decide) (by decide)).mono ?_
       rintro _ w9 ⟨r2,rfl,g2,h2⟩
       refine⟨_,rfl,g2,?_⟩
       go_simp
       refine hK _ _ ?_
       clear hK K
       have GZ:=ξ (GZ.out.trans g2)
       clear h1
       obtain⟨cs,hcs⟩:∃ c,cmpQ (leastS (lowAll p.vars l) fun j=>(((-1) * rowCoef x.s.terms j:Int):Rat)) (((-1) * x.bound:Int):Rat)=c:=⟨_,rfl⟩
       have hsz:=(Uk (Oo l HK.out HW.out).1.2.2.1 HIN.out (by rw[Ni];exact hn)).1 _ (Nat.le_refl _)
       refine Jd (args:=?_) rfl rfl rfl rfl rfl rfl (by kernel_rfl) (by kernel_rfl) ?_ (fun K hK=>?_)
       rotate_left
       ·go_simp;rfl
       refine(Tq _ _ _ _ (((-1) * x.bound:Int):Rat) cs 200 2 (RatC.v (HU.out.grow GZ.out) hsz) (h2.v (Ky (Oz (sg:=(-1)) (by decide) HRO.out.2.2.2.1).1)) hcs (by decide) (by decide)).mono ?_
       rintro _ w10 ⟨_,rfl,g3,rfl⟩
       refine⟨_,rfl,g3,?_⟩
       go_simp
       refine hK _ _ ?_
       clear hK K
       have GZ:=ξ (GZ.out.trans g3)
       have HCP:=ξ (show 0 < cs↔Mp p.vars x.s l from by
        rw[R3 hcs]
        unfold Mp
        rw[HSG.out]
        exact⟨fun h=>⟨HE.out,h⟩,fun h=>h.2⟩)
       have g4:=GZ.out
       clear h2 hsz hcs
       repeat(refine Jf (v:=?_) g4 rfl rfl (fun w' hg=>?_) (fun K hK=>?_);rotate_left;(go_simp;rfl);go_simp;refine hK _ _ ?_;clear hK K)
       refine Ji ?_
       clear g0 g1 g2 g3 g4 d0 d1 d2 d3 i0 i1 i2
       go_wp2_with fail
       go_ret
       refine⟨_,rfl,HS.out.cv.g.trans GZ.out,decide (0 < cs),rfl,?_⟩
       rw[← HCP.out];simp
   ·have e1:(kd == 1)=false:=by simpa using h1
    have HSG:=ξ (show sgnR x.s=1 from by rw[HKD.out,if_neg h1])
    have y0:=HS.out.tp.at 0 rfl
    clear h1
    go_wp2_with (at_make;refine Hold.hold ?_)
    clear y0 y2 e1
    generalize w4.heap.size=b10 at HS HN10 ⊢
    generalize w4.alloc _=W5 at HS ⊢
    refine Hold.go ?_
    refine Rk rfl _ _ 33 rfl (by kernel_rfl) p.vars.length _ rfl rfl rfl (by omega) ?_
    intro W6 ho g6
    have HNO:=ξ (show w.heap.size≤W5.heap.size∧b7≠W5.heap.size∧bg≠W5.heap.size∧bp≠W5.heap.size∧br≠W5.heap.size∧b10≠W5.heap.size from by
     have h1:=HS.out.cv.tq.lt
     have h2:=HS.out.tp.lt
     have h3:=HS.out.tr.lt
     have h5:=HS.out.cv.g.size
     have h6:=(World.ownsRow.lt HS.out.cv.ro bg rfl).2
     have h7:=HS.out.t10.lt
     exact⟨h5,by omega,by omega,by omega,by omega,by omega⟩)
    have HS:=ξ (HS.out.grow g6)
    have HO:=ξ ho
    generalize W5.heap.size=bo at HO HNO ⊢
    have y3:=HS.out.tr.at 3 rfl
    have htb:=Lp.big HX.out
    clear ho g6
    go_wp2_with fail
    clear y3
    go_loopw [44] (fun i w9=>∃ m:Nat,i = .int .i64 (m:Int)∧m≤x.terms.length∧CvSt w w9 br b7 bg b10 p.vars.length cg #[.string ⟨x.name.toArray⟩,.int .i64 x.group,.int .i64 x.kind,.slice x.tp x.terms.length x.tc,.int .i64 x.bound] (.slice va p.vars.length vc) (.slice vb p.rows.length vd) bp (lowAll p.vars l) ((1:Int):Rat)∧Jo w9 bo p.vars.length (fun j=>((1 * rowCoef (x.terms.take m) j:Int):Rat)) 80) (fun i _=>x.terms.length - (RowKit.intOf i).toNat)
    case atStart=>exact⟨0,rfl,Nat.zero_le _,HS.out,HO.out.congr fun j _=>by simp[rowCoef]⟩
    case round=>
     clear HS HO
     obtain⟨m,rfl,hm2,hq,hq2⟩:=hrel
     have HS:=ξ hq
     have HO:=ξ hq2
     clear hq hq2
     by_cases hlm:m < x.terms.length
     ·have hlm':(m:Int) < (x.terms.length:Int):=by omega
      obtain⟨bt,ot,tm,htp,ht,hct⟩:=P2 HX.out rfl hlm
      obtain⟨d0,d1⟩:=hct _ HS.out.cv.g
      have HT:=ξ ht
      have HTV:=ξ (Nh (Int.le_refl _) HRO.out.2.2.2.2.2 tm (List.mem_of_getElem? ht))
      have HTC:=ξ (Ng _ _ _ _ ht HRO.out.2.2.2.2.2)
      obtain⟨jn,hjn⟩:∃ jn:Nat,tm.v=(jn:Int):=⟨tm.v.toNat,by have:=HTV.out.1;omega⟩
      have hjl:jn < p.vars.length:=by have:=HTV.out.2;omega
      have hjl':(jn:Int) < (p.vars.length:Int):=by omega
      have hj0:(0:Int)≤(jn:Int):=by omega
      have HZR:=ξ (show rowCoef (x.terms.take m) jn=0 from Tw _ _ fun z hz=>by have:=S0 _ _ _ _ ht HRO.out.2.2.2.2.2 z hz;omega)
      rw[hjn] at d0
      have HJ:=ξ hjn
      have BT:=Ja.new wr #[.int .i64 (jn:Int),.int .i64 tm.c] 75
      have HBT:=ξ BT.2
      have HS:=ξ (HS.out.grow BT.1)
      have HO:=ξ (HO.out.grow BT.1)
      have HTP:=ξ htp
      rw[htp]
      clear ht hct hjn htp BT
      go_wp2_with fail
      clear d0 d1
      generalize wr.heap.size=bt2 at HBT ⊢
      generalize wr.alloc _=W7 at HBT HS HO ⊢
      have d0:=HBT.out.c 0 rfl
      have d1:=HBT.out.c 1 rfl
      obtain⟨ts,h7,hts⟩:=HS.out.t10
      have HTS:=ξ hts
      have i0:=h7.c0
      have i1:=h7.c1
      have i2:=h7.c2
      have g0:Gr W7 W7.drew:=(Gr.refl _).drew
      have GZ:=ξ g0
      clear h7 hts
      refine Jp [(0,true),(1,true),(2,true),(3,true),(4,true),(5,true),(6,false),(7,false),(8,true),(9,false)] (by kernel_rfl) (by kernel_rfl) rfl (by kernel_rfl) (fun _ _ d _ _ h=>by cases d<;>exact h) ?_
      repeat(refine Jf (v:=?_) g0 rfl rfl (fun w' hg=>?_) (fun K hK=>?_);rotate_left;(go_simp;rfl);go_simp;refine hK _ _ ?_;clear hK K)
      refine Jd (args:=?_) rfl rfl rfl rfl rfl rfl (by kernel_rfl) (by kernel_rfl) ?_ (fun K hK=>?_)
      rotate_left
      ·go_simp;rfl
      refine(Lu _ tm.c (Js HTC.out.2.2.2).1 (Js HTC.out.2.2.2).2).mono ?_
      rintro _ w8 ⟨r1,rfl,g1,h1⟩
      refine⟨_,rfl,g1,?_⟩
      go_simp
      refine hK _ _ ?_
      clear hK K
      have GZ:=ξ (GZ.out.trans g1)
      refine Jd (args:=?_) rfl rfl rfl rfl rfl rfl (by kernel_rfl) (by kernel_rfl) ?_ (fun K hK=>?_)
      rotate_left
      ·go_simp;rfl
      refine(Nn _ _ _ ((1:Int):Rat) (tm.c:Rat) ((1 * tm.c:Int):Rat) 2 2 (RatC.v (HTS.out.grow GZ.out) (Ky (show In 1 by unfold In;decide))) (h1.v (Ky HTC.out.2.2.2)) (Rat.intCast_mul _ _).symm (by decide) (by decide)).mono ?_
      rintro _ w9 ⟨r2,rfl,g2,h2⟩
      refine⟨_,rfl,g2,?_⟩
      go_simp
      refine hK _ _ ?_
      clear hK K
      have GZ:=ξ (GZ.out.trans g2)
      clear h1
      have g4:=GZ.out
      repeat(refine Jf (v:=?_) g4 rfl rfl (fun w' hg=>?_) (fun K hK=>?_);rotate_left;(go_simp;rfl);go_simp;refine hK _ _ ?_;clear hK K)
      have HS:=ξ (HS.out.grow GZ.out)
      have HO:=ξ (HO.out.grow GZ.out)
      obtain⟨s9,p9,k9,c9,e9,m9,n9,rfl⟩:=h2.agg
      obtain⟨t1,-,hc1⟩:=HO.out.at hjl
      obtain⟨f0,f1,f2⟩:=hc1 w9 (Gr.refl _)
      have f3:=HO.out.f (jn * 3)
      have f4:=HO.out.f (jn * 3+1)
      have f5:=HO.out.f (jn * 3+2)
      have HNX:=ξ (And.intro (HS.out.setO (k:=jn) ⟨s9,p9,k9,c9,e9,m9,n9⟩ HO.out.noInt HNO.out.1 HNO.out.2.1 HNO.out.2.2.1 HNO.out.2.2.2.1 HNO.out.2.2.2.2.1 HNO.out.2.2.2.2.2) (show Jo (setRat w9 bo jn ⟨s9,p9,k9,c9,e9,m9,n9⟩) bo p.vars.length (fun j=>((1 * rowCoef (x.terms.take (m+1)) j:Int):Rat)) 80 from
       HO.out.set hjl (t:=⟨s9,p9,k9,c9,e9,m9,n9⟩) (by
        show RatV w9 _ ((1 * rowCoef (x.terms.take (m+1)) jn:Int):Rat) 80
        rw[Ow HT.out,if_pos HJ.out,HZR.out,Int.zero_add]
        exact h2.v (Sz.mono' (Ky (Oz (sg:=1) (by decide) HTC.out.2.2.2).1) (by decide))) (fun i hi hne=>by
        show((1 * rowCoef (x.terms.take m) i:Int):Rat)=((1 * rowCoef (x.terms.take (m+1)) i:Int):Rat)
        rw[Ow HT.out,if_neg (by rw[HJ.out];omega),Int.add_zero])))
      clear h2 hc1 d0 d1 i0 i1 i2
      refine Jj rfl rfl (fun K hK=>?_)
      go_simp
      refine⟨fun h=>Bool.noConfusion h,hK _ _ ?_⟩
      clear hK K
      unfold setRat at HNX
      dsimp only at HNX
      generalize ((w9.setCell _ _).setCell _ _).setCell _ _=W9 at HNX ⊢
      refine Ji ?_
      clear f0 f1 f2 f3 f4 f5 g0 g1 g2 g4
      have hk1:IntKind.i64.wrap ((m:Int)+1)=(m:Int)+1:=by rw[IntKind.wrap_i64];omega
      go_wp2_with fail
      exact⟨⟨m+1,by go_num,by omega,by have h:=HNX.out.1;rw[HTP.out] at h;exact h,HNX.out.2⟩,by simp[RowKit.intOf];omega⟩
     ·obtain rfl:m=x.terms.length:=by omega
      have HO:=ξ (show Jo wr bo p.vars.length (fun j=>((1 * rowCoef x.terms j:Int):Rat)) 80 from by have:=HO.out;rwa [List.take_length] at this)
      have HRF:=ξ (HO.out.read (by omega))
      have q0:=HS.out.cv.tq.at 0 rfl
      have q1:=HS.out.cv.tq.at 1 rfl
      have HIN:=ξ (show ∀ j,In (1 * rowCoef x.s.terms j) from fun j=>(Oz (sg:=1) (by decide) (Kb.coefs HRO.out j)).1)
      go_wp2_with fail
      clear q0 q1
      refine(Yk wr _ _ _ _ _ (lowAll p.vars l) (fun j=>1 * rowCoef x.s.terms j) (Ni _ _) (OwnL.read HS.out.cv.ro) HRF.out (Oo l HK.out HW.out).1 (Oo l HK.out HW.out).2 HIN.out hn).mono ?_
      rintro _ w6 ⟨r6,rfl,g6,h6⟩
      rcases h6 with⟨he,rfl⟩|⟨he,u,rfl,hu⟩
      ·have H:=ξ (show ¬ Mp p.vars x.s l from fun h=>h.1 he)
       have GG:=ξ ((HS.out.cv.g.trans g6).trans (show Gr w6 (w6.alloc (.cells #[.bool false,.slice none 0 0,.slice none 0 0] 68)) from(Gr.refl _).alloc _))
       clear he g6
       go_wp2_with fail
       generalize w6.alloc _=W8 at GG ⊢
       have g0:Gr W8 W8.drew:=(Gr.refl _).drew
       have GG:=ξ (GG.out.trans g0)
       refine Jp [(0,true),(1,true),(2,true),(3,true),(4,true),(5,true),(6,false),(7,false),(8,false),(9,true),(10,true),(11,true)] (by kernel_rfl) (by kernel_rfl) rfl (by kernel_rfl) (fun _ _ d _ _ h=>by cases d<;>exact h) ?_
       repeat(first|(refine Ka rfl rfl ?_;go_simp)|(refine Jf (v:=?_) g0 rfl rfl (fun w' hg=>?_) (fun K hK=>?_);rotate_left;(go_simp;rfl);go_simp;refine hK _ _ ?_;clear hK K))
       refine Ji ?_
       clear g0
       go_wp2_with fail
       go_ret
       exact⟨_,rfl,GG.out,Jb.no H.out⟩
      ·obtain⟨s9,p9,k9,c9,e9,m9,n9,rfl⟩:=hu.agg
       have B14:=box3 w6 (.bool s9) (.slice p9 k9 c9) (.slice e9 m9 n9) 68
       have T14:=ξ B14.2
       have HU:=ξ (hu.grow B14.1)
       have HS:=ξ (HS.out.grow (g6.trans B14.1))
       have HE:=ξ he
       clear he hu g6 B14
       go_wp2_with fail
       generalize w6.heap.size=b14 at T14 ⊢
       generalize w6.alloc _=W8 at T14 HU HS ⊢
       have d0:=T14.out.c0
       have d1:=T14.out.c1
       have d2:=T14.out.c2
       have d3:=HS.out.tr.c 4 rfl
       obtain⟨ts,h7,hts⟩:=HS.out.t10
       have HTS:=ξ hts
       have i0:=h7.c0
       have i1:=h7.c1
       have i2:=h7.c2
       have g0:Gr W8 W8.drew:=(Gr.refl _).drew
       have GZ:=ξ g0
       clear h7 hts
       refine Jp [(0,true),(1,true),(2,true),(3,true),(4,true),(5,true),(6,false),(7,false),(8,false),(9,true),(10,true),(11,true)] (by kernel_rfl) (by kernel_rfl) rfl (by kernel_rfl) (fun _ _ d _ _ h=>by cases d<;>exact h) ?_
       repeat(refine Jf (v:=?_) g0 rfl rfl (fun w' hg=>?_) (fun K hK=>?_);rotate_left;(go_simp;rfl);go_simp;refine hK _ _ ?_;clear hK K)
       refine Jd (args:=?_) rfl rfl rfl rfl rfl rfl (by kernel_rfl) (by kernel_rfl) ?_ (fun K hK=>?_)
       rotate_left
       ·go_simp;rfl
       refine(Lu _ x.bound (Js HRO.out.2.2.2.1).1 (Js HRO.out.2.2.2.1).2).mono ?_
       rintro _ w8 ⟨r1,rfl,g1,h1⟩
       refine⟨_,rfl,g1,?_⟩
       go_simp
       refine hK _ _ ?_
       clear hK K
       have GZ:=ξ (GZ.out.trans g1)
       refine Jd (args:=?_) rfl rfl rfl rfl rfl rfl (by kernel_rfl) (by kernel_rfl) ?_ (fun K hK=>?_)
       rotate_left
       ·go_simp;rfl
       refine(Nn _ _ _ ((1:Int):Rat) (x.bound:Rat) ((1 * x.bound:Int):Rat) 2 2 (RatC.v (HTS.out.grow GZ.out) (Ky (show In 1 by unfold In;decide))) (h1.v (Ky HRO.out.2.2.2.1)) (Rat.intCast_mul _ _).symm (by decide) (by decide)).mono ?_
       rintro _ w9 ⟨r2,rfl,g2,h2⟩
       refine⟨_,rfl,g2,?_⟩
       go_simp
       refine hK _ _ ?_
       clear hK K
       have GZ:=ξ (GZ.out.trans g2)
       clear h1
       obtain⟨cs,hcs⟩:∃ c,cmpQ (leastS (lowAll p.vars l) fun j=>((1 * rowCoef x.s.terms j:Int):Rat)) ((1 * x.bound:Int):Rat)=c:=⟨_,rfl⟩
       have hsz:=(Uk (Oo l HK.out HW.out).1.2.2.1 HIN.out (by rw[Ni];exact hn)).1 _ (Nat.le_refl _)
       refine Jd (args:=?_) rfl rfl rfl rfl rfl rfl (by kernel_rfl) (by kernel_rfl) ?_ (fun K hK=>?_)
       rotate_left
       ·go_simp;rfl
       refine(Tq _ _ _ _ ((1 * x.bound:Int):Rat) cs 200 2 (RatC.v (HU.out.grow GZ.out) hsz) (h2.v (Ky (Oz (sg:=1) (by decide) HRO.out.2.2.2.1).1)) hcs (by decide) (by decide)).mono ?_
       rintro _ w10 ⟨_,rfl,g3,rfl⟩
       refine⟨_,rfl,g3,?_⟩
       go_simp
       refine hK _ _ ?_
       clear hK K
       have GZ:=ξ (GZ.out.trans g3)
       have HCP:=ξ (show 0 < cs↔Mp p.vars x.s l from by
        rw[R3 hcs]
        unfold Mp
        rw[HSG.out]
        exact⟨fun h=>⟨HE.out,h⟩,fun h=>h.2⟩)
       have g4:=GZ.out
       clear h2 hsz hcs
       repeat(refine Jf (v:=?_) g4 rfl rfl (fun w' hg=>?_) (fun K hK=>?_);rotate_left;(go_simp;rfl);go_simp;refine hK _ _ ?_;clear hK K)
       refine Ji ?_
       clear g0 g1 g2 g3 g4 d0 d1 d2 d3 i0 i1 i2
       go_wp2_with fail
       go_ret
       refine⟨_,rfl,HS.out.cv.g.trans GZ.out,decide (0 < cs),rfl,?_⟩
       rw[← HCP.out];simp
theorem J3z (w:World)(z:Int):Calls Tryz.prog 149 #[.slice none 0 0,.int .i64 z] w (Ret w fun r _=>r = .bool false):=by
 have h:Calls Tryz.prog 208 #[.slice none 0 0,.int .i64 z] w (Ret w fun r _=>r = .int .i64 (-1)):=by
  go_enter Tryz.func208,Tryz.ntmps208
  go_wp2_with fail
  go_loopw [8] (fun i w1=>i = .int .i64 0∧Gr w w1) (fun i _=>0)
  case atStart=>exact⟨rfl,Gr.refl _⟩
  case round=>
   obtain⟨rfl,hg⟩:=hrel
   have G:=ξ hg
   clear hg
   go_wp2_with fail
   go_ret
   exact⟨_,rfl,G.out,rfl⟩
 have H:=ξ h
 clear h
 go_enter Tryz.func149,Tryz.ntmps149
 go_wp2_with fail
 refine H.out.mono ?_
 rintro _ w2 ⟨_,rfl,g2,rfl⟩
 have G:=ξ g2
 clear g2
 go_wp2_with fail
 go_ret
 exact⟨_,rfl,G.out,rfl⟩
abbrev K6 (w:World)(base:Nat)(y:RowM):Prop:=OwnL w base 75 2 encTerm (.slice y.tp y.terms.length y.tc) y.terms
abbrev tv (y:RowM):Value:=.slice y.tp y.terms.length y.tc
structure WoSt (w W:World)(bp b4 b5:Nat)(u0 u1:Value)(n:Nat)(pv:Option Addr)(cv:Nat)(V:List VarM)(rv:Value)(T:List RowM):Prop where
 g:Gr w W
 tp:Ja W bp #[u0,u1]
 t4:Ja W b4 #[.slice none 0 0,.slice none 0 0]
 t5:Ja W b5 #[.slice pv n cv,rv]
 ov:OwnL W w.heap.size 62 5 encVar (.slice pv n cv) V
 orr:OwnL W w.heap.size 42 5 encRow rv T
 tt:∀ y ∈ T,K6 W w.heap.size y
 ne:∀ b,rv.ownBlock=some b→b≠bp∧b≠b4∧b≠b5∧(Value.slice pv n cv).ownBlock≠some b∧∀ y ∈ T,(tv y).ownBlock≠some b
 nv:(Value.slice pv n cv).ownBlock≠some b4∧(Value.slice pv n cv).ownBlock≠some b5
 nt:∀ y ∈ T,(tv y).ownBlock≠some b4∧(tv y).ownBlock≠some b5
section
variable {w W:World}{bp b4 b5:Nat}{u0 u1:Value}{n:Nat}{pv:Option Addr}{cv:Nat}{V:List VarM}{rv:Value}{T:List RowM}
theorem WoSt.grow {W':World}(h:WoSt w W bp b4 b5 u0 u1 n pv cv V rv T)(g:Gr W W'):WoSt w W' bp b4 b5 u0 u1 n pv cv V rv T:=
 ⟨h.g.trans g,h.tp.grow g,h.t4.grow g,h.t5.grow g,h.ov.grow g,h.orr.grow g,fun y hy=>(h.tt y hy).grow g,h.ne,h.nv,h.nt⟩
theorem WoSt.put {W1:World}{rv':Value}{y:RowM}(h:WoSt w W bp b4 b5 u0 u1 n pv cv V rv T)(h5:w.heap.size≤b5)(hx:bp≠b5∧b4≠b5)(h1:OwnL W1 w.heap.size 42 5 encRow rv' (T ++ [y]))(hg:W.grownBy W1 rv.ownBlock)
  (hb:rv'.ownBlock=rv.ownBlock∨rv'.ownBlock=some W.heap.size) (hy:K6 W w.heap.size y) (hy2:∀ b,rv.ownBlock=some b→(tv y).ownBlock≠some b) (hy3:(tv y).ownBlock≠some b4∧(tv y).ownBlock≠some b5):
  (W1.cell? ⟨b5,1,none⟩=some rv∧W1.frozen? ⟨b5,1,none⟩=false)∧WoSt w (W1.setCell ⟨b5,1,none⟩ rv') bp b4 b5 u0 u1 n pv cv V rv' (T ++ [y]):=by
 have keep:∀ b vs,Ja W b vs→(∀ g,rv.ownBlock=some g→g≠b)→W1.heap[b]?=W.heap[b]?:=fun b vs hc hne=>hg.block b hc.lt (fun e=>hne b e.symm rfl)
 have c5:=Kt h.t5 (keep b5 _ h.t5 fun g hg=>(h.ne g hg).2.2.1)
 have cp:=Kt h.tp (keep bp _ h.tp fun g hg=>(h.ne g hg).1)
 have c4:=Kt h.t4 (keep b4 _ h.t4 fun g hg=>(h.ne g hg).2.1)
 have hG1:Gr w W1:=OwnL.gr h.orr h.g hg
 have hu:=J8 W1 b5 1 rv'
 have kept:∀ {α:Type} {enc:α→List Value} {sz:Nat} {e:TypeId} {v:Value} {l:List α},OwnL W w.heap.size e sz enc v l→(∀ b,rv.ownBlock=some b→v.ownBlock≠some b)→OwnL W1 w.heap.size e sz enc v l:=fun ho hne=>World.ownsRow.kept ho hg (by
  cases hr:rv.ownBlock with
  | none=>
   rename_i v l
   cases hv:v.ownBlock with
   | none=>exact .inl rfl
   | some b=>exact .inr (fun e=>by cases e)
  | some b=>exact .inr (by rw[← hr];exact fun e=>hne b hr (e.trans hr)))
 have hlt:=World.ownsRow.lt h.ov
 have hnn:∀ b,rv'.ownBlock=some b→b≠bp∧b≠b4∧b≠b5∧(Value.slice pv n cv).ownBlock≠some b∧∀ z ∈ T ++ [y],(tv z).ownBlock≠some b:=fun b hb'=>by
  rcases hb with hb|hb
  ·have h0:=h.ne b (hb ▸ hb')
   refine⟨h0.1,h0.2.1,h0.2.2.1,h0.2.2.2.1,fun z hz=>?_⟩
   rcases List.mem_append.1 hz with hz|hz
   ·exact h0.2.2.2.2 z hz
   ·obtain rfl:=List.mem_singleton.1 hz
    exact hy2 b (hb ▸ hb')
  ·rw[hb] at hb'
   obtain rfl:=Option.some.inj hb'
   have l1:=h.tp.lt
   have l2:=h.t4.lt
   have l3:=h.t5.lt
   refine⟨by omega,by omega,by omega,fun e=>?_,fun z hz e=>?_⟩
   ·have:=(hlt _ e).2;omega
   ·rcases List.mem_append.1 hz with hz|hz
    ·have:=(World.ownsRow.lt (h.tt z hz) _ e).2;omega
    ·obtain rfl:=List.mem_singleton.1 hz
     have:=(World.ownsRow.lt hy _ e).2;omega
 refine⟨⟨c5.at 1 rfl,c5.f 1⟩,⟨Gr.set hG1 (by omega) _,cp.upd hu hx.1,c4.upd hu hx.2,?_,?_,?_,fun z hz=>?_,hnn,h.nv,fun z hz=>?_⟩⟩
 ·have:=c5.set 1 rv'
  simpa using this
 ·exact OwnL.other (kept h.ov fun b hb=>(h.ne b hb).2.2.2.1) h.nv.2
 ·exact OwnL.other h1 (fun e=>(hnn b5 e).2.2.1 rfl)
 ·rcases List.mem_append.1 hz with hz|hz
  ·exact OwnL.other (kept (h.tt z hz) fun b hb=>(h.ne b hb).2.2.2.2 z hz) (h.nt z hz).2
  ·obtain rfl:=List.mem_singleton.1 hz
   exact OwnL.other (kept hy hy2) hy3.2
 ·rcases List.mem_append.1 hz with hz|hz
  ·exact h.nt z hz
  ·obtain rfl:=List.mem_singleton.1 hz
   exact hy3
end
def Lc (w:World)(base:Nat)(v:Value)(q:Prg):Prop:=
 ∃ a c b d T,v=prgV a c b d q∧OwnL w base 62 5 encVar (.slice a q.vars.length c) q.vars∧OwnL w base 42 5 encRow (.slice b q.rows.length d) T∧T.map RowM.s=q.rows∧∀ y ∈ T,K6 w base y
def J1j (w:World)(base:Nat)(v:Value)(q:Prg):Prop:=
 ∃ a c b d T,v=prgV a c b d q∧OwnL w base 62 5 encVar (.slice a q.vars.length c) q.vars∧OwnL w base 42 5 encRow (.slice b q.rows.length d) T∧T.map RowM.s=q.rows∧(∀ y ∈ T,K6 w base y)∧
  ∀ k,(Value.slice b q.rows.length d).ownBlock=some k→(Value.slice a q.vars.length c).ownBlock≠some k∧∀ y ∈ T,(tv y).ownBlock≠some k
theorem OwnL.keptR {α:Type}{enc:α→List Value}{sz:Nat}{e:TypeId}{W W1:World}{base:Nat}{v rv:Value}{l:List α}(ho:OwnL W base e sz enc v l)(hg:W.grownBy W1 rv.ownBlock)(hne:∀ b,rv.ownBlock=some b→v.ownBlock≠some b):OwnL W1 base e sz enc v l:=
 World.ownsRow.kept ho hg (by
  cases hr:rv.ownBlock with
  | none=>
   cases hv:v.ownBlock with
   | none=>exact .inl rfl
   | some b=>exact .inr (fun e=>by cases e)
  | some b=>exact .inr (by rw[← hr];exact fun e=>hne b hr (e.trans hr)))
theorem Lc.at {w:World}{base:Nat}{v:Value}{q:Prg}(h:Lc w base v q):Jv w v q:=by
 obtain⟨a,c,b,d,T,rfl,h1,h2,h3,h4⟩:=h
 exact⟨a,c,b,d,rfl,h1.read,T,h2.read,h3,fun y hy=>(h4 y hy).read⟩
theorem Lc.kept {w w':World}{base bt:Nat}{v:Value}{q:Prg}(h:Lc w base v q)(hb:bt < base)(g:w.grownBy w' (some bt)):Lc w' base v q:=by
 have k:∀ {α:Type} {enc:α→List Value} {sz:Nat} {e:TypeId} {v:Value} {l:List α},OwnL w base e sz enc v l→OwnL w' base e sz enc v l:=fun ho=>World.ownsRow.kept ho g (.inr fun e=>by have:=(World.ownsRow.lt ho bt e).1;omega)
 obtain⟨a,c,b,d,T,rfl,h1,h2,h3,h4⟩:=h
 exact⟨a,c,b,d,T,rfl,k h1,k h2,h3,fun y hy=>k (h4 y hy)⟩
theorem Lc.low {w:World}{base base':Nat}{v:Value}{q:Prg}(h:Lc w base v q)(hb:base'≤base):Lc w base' v q:=by
 obtain⟨a,c,b,d,T,rfl,h1,h2,h3,h4⟩:=h
 exact⟨a,c,b,d,T,rfl,OwnL.low h1 hb,OwnL.low h2 hb,h3,fun y hy=>OwnL.low (h4 y hy) hb⟩
theorem Lc.grow {w w':World}{base:Nat}{v:Value}{q:Prg}(h:Lc w base v q)(g:Gr w w'):Lc w' base v q:=by
 obtain⟨a,c,b,d,T,rfl,h1,h2,h3,h4⟩:=h
 exact⟨a,c,b,d,T,rfl,h1.grow g,h2.grow g,h3,fun y hy=>(h4 y hy).grow g⟩
theorem J3E (w:World)(v:Value)(p:Prg)(hp:Jv w v p)(hn:p.vars.length≤1000000)(hm:p.rows.length≤1000000)(hl:∀ r ∈ p.rows,r.terms.length≤1000000):
  Calls Tryz.prog 97 #[v,.slice none 0 0] w (Ret w fun r w'=>J1j w' w.heap.size r p):=by
 have HL:=ξ hl
 obtain⟨va,vc,vb,vd,rfl,hv,hr⟩:=hp
 have HV:=ξ hv
 obtain⟨TT,hT1,hT2,hT3⟩:=hr
 have hTl:TT.length=p.rows.length:=by rw[← hT2,List.length_map]
 have HT1:=ξ hT1
 have HT2:=ξ hT2
 have HT3:=ξ hT3
 have HTL:=ξ hTl
 have B0:=Ja.new w #[.slice va p.vars.length vc,.slice vb p.rows.length vd] 25
 have B1:=Ja.new (w.alloc (.cells #[.slice va p.vars.length vc,.slice vb p.rows.length vd] 25)) #[.slice none 0 0,.slice none 0 0] 25
 simp only[World.size_alloc] at B1
 have HB:=ξ (show Gr w _∧Ja _ w.heap.size #[.slice va p.vars.length vc,.slice vb p.rows.length vd]∧Ja _ (w.heap.size+1) #[.slice none 0 0,.slice none 0 0] from⟨B0.1.trans B1.1,B0.2.grow B1.1,B1.2⟩)
 clear hl hv hT1 hT2 hT3 hTl B0 B1
 unfold prgV
 go_enter Tryz.func97,Tryz.ntmps97
 go_wp2_with fail
 generalize hb4:w.heap.size+1=b4 at HB ⊢
 generalize hbp:w.heap.size=bp at HB ⊢
 generalize (w.alloc _).alloc _=W at HB ⊢
 have G:=ξ HB.out.1
 have TP:=ξ HB.out.2.1
 have T4:=ξ HB.out.2.2
 have HB4:=ξ (show w.heap.size≤b4∧bp≠b4 from by omega)
 clear HB hb4 hbp
 refine(R2 W va p.vars.length vc p.vars (SlL.grow HV.out G.out) rfl hn).mono ?_
 rintro _ w2 ⟨_,rfl,g2,pv,cv,rfl,ho2⟩
 have B5:=Ja.new w2 #[.slice pv p.vars.length cv,.slice none 0 0] 25
 have HN5:=ξ (show w.heap.size≤w2.heap.size∧bp≠w2.heap.size∧b4≠w2.heap.size from by
  have h1:=(TP.out.grow g2).lt
  have h2:=(T4.out.grow g2).lt
  exact⟨(G.out.trans g2).size,by omega,by omega⟩)
 have HS0:=ξ (show WoSt w (w2.alloc (.cells #[.slice pv p.vars.length cv,.slice none 0 0] 25)) bp b4 w2.heap.size (.slice va p.vars.length vc) (.slice vb p.rows.length vd) p.vars.length pv cv p.vars (.slice none 0 0) [] from
  ⟨(G.out.trans g2).trans B5.1,TP.out.grow (g2.trans B5.1),T4.out.grow (g2.trans B5.1),B5.2,OwnL.low (ho2.grow B5.1) G.out.size,OwnL.nil _ _ _,fun y hy=>(by cases hy),fun b h=>(by cases h),
   ⟨fun e=>by have:=(World.ownsRow.lt ho2 _ e).1;have:=T4.out.lt;omega,fun e=>by have:=(World.ownsRow.lt ho2 _ e).2;omega⟩,fun y hy=>(by cases hy)⟩)
 have y1:=HS0.out.tp.at 1 rfl
 clear ho2 g2 B5 TP T4 G
 go_wp2_with fail
 clear y1
 generalize w2.heap.size=b5 at HS0 HN5 ⊢
 generalize w2.alloc _=W3 at HS0 ⊢
 go_loopw [15] (fun i w9=>∃ (k:Nat) (rv:Value) (T:List RowM),i = .int .i64 (k:Int)∧k≤p.rows.length∧T.map RowM.s=p.rows.take k∧WoSt w w9 bp b4 b5 (.slice va p.vars.length vc) (.slice vb p.rows.length vd) p.vars.length pv cv p.vars rv T) (fun i _=>p.rows.length - (RowKit.intOf i).toNat)
 case atStart=>exact⟨0,_,[],rfl,Nat.zero_le _,rfl,HS0.out⟩
 case round=>
  clear HS0
  obtain⟨k,rv,T,rfl,hk,hq,hst⟩:=hrel
  have HQ:=ξ hq
  have HS:=ξ hst
  have HTK:=ξ (show T.length=k from by have:=congrArg List.length hq;simp at this;omega)
  clear hq hst
  by_cases hlt:k < p.rows.length
  ·have hlt':(k:Int) < (p.rows.length:Int):=by omega
   have hk1:IntKind.i64.wrap ((k:Int)+1)=(k:Int)+1:=by rw[IntKind.wrap_i64];omega
   obtain⟨b,o,x,rfl,hx,hcx⟩:=J0p HT1.out HTL.out hlt
   have HX:=ξ hx
   have HXR:=ξ (show p.rows[k]?=some x.s from by rw[← HT2.out,List.getElem?_map,hx];rfl)
   have HXT:=ξ (HT3.out x (List.mem_of_getElem? hx))
   have HXL:=ξ (show x.terms.length≤1000000 from HL.out _ (by rw[← HT2.out];exact List.mem_map.2 ⟨x,List.mem_of_getElem? hx,rfl⟩))
   obtain⟨c0,c1,c2,c3,c4⟩:=hcx _ HS.out.g
   obtain⟨gr,hgr⟩:∃ z,x.group=z:=⟨_,rfl⟩
   rw[hgr] at c1
   have HGR:=ξ hgr
   have B7:=Ja.new wr #[.string ⟨x.name.toArray⟩,.int .i64 gr,.int .i64 x.kind,.slice x.tp x.terms.length x.tc,.int .i64 x.bound] 42
   have HN7:=ξ (show bp≠wr.heap.size∧b4≠wr.heap.size∧b5≠wr.heap.size∧w.heap.size≤wr.heap.size∧rv.ownBlock≠some wr.heap.size∧(Value.slice pv p.vars.length cv).ownBlock≠some wr.heap.size∧∀ y ∈ T,(tv y).ownBlock≠some wr.heap.size from by
    have h1:=HS.out.tp.lt
    have h2:=HS.out.t4.lt
    have h3:=HS.out.t5.lt
    have h4:=HS.out.g.size
    refine⟨by omega,by omega,by omega,h4,fun e=>?_,fun e=>?_,fun y hy e=>?_⟩
    ·have:=(World.ownsRow.lt HS.out.orr _ e).2;omega
    ·have:=(World.ownsRow.lt HS.out.ov _ e).2;omega
    ·have:=(World.ownsRow.lt (HS.out.tt y hy) _ e).2;omega)
   have HS:=ξ (HS.out.grow B7.1)
   have T7:=ξ B7.2
   clear hx hcx hgr B7
   by_cases hg:gr=0
   ·subst hg
    have t3:=T7.out.at 3 rfl
    go_wp2_with fail
    clear c0 c1 c2 c3 c4 t3
    generalize wr.heap.size=b7 at T7 HN7 ⊢
    generalize wr.alloc _=W7 at T7 HS ⊢
    refine(Vq W7 x.tp x.terms.length x.tc x.terms (SlL.grow HXT.out HS.out.g) rfl HXL.out).mono ?_
    rintro _ w8 ⟨_,rfl,g8,pt,ct,rfl,ho8⟩
    have HY8:=ξ (show(∀ b,rv.ownBlock=some b→(Value.slice pt x.terms.length ct).ownBlock≠some b)∧(Value.slice pt x.terms.length ct).ownBlock≠some b4∧(Value.slice pt x.terms.length ct).ownBlock≠some b5∧(Value.slice pt x.terms.length ct).ownBlock≠some b7 from by
     have l:=World.ownsRow.lt ho8
     refine⟨fun b hb e=>?_,fun e=>?_,fun e=>?_,fun e=>?_⟩
     ·have h1:=(l _ e).1;have h2:=(World.ownsRow.lt HS.out.orr b hb).2;omega
     ·have h1:=(l _ e).1;have h2:=HS.out.t4.lt;omega
     ·have h1:=(l _ e).1;have h2:=HS.out.t5.lt;omega
     ·have h1:=(l _ e).1;have h2:=T7.out.lt;omega)
    have HO8:=ξ (OwnL.low ho8 HS.out.g.size)
    have HS:=ξ (HS.out.grow g8)
    have T7:=ξ (T7.out.grow g8)
    have HN7':=ξ HN7.out.2.2.2.2
    clear ho8 g8
    have t0:=T7.out.at 0 rfl
    have t1:=T7.out.at 1 rfl
    have t2:=T7.out.at 2 rfl
    have t3:=T7.out.at 3 rfl
    have t4:=T7.out.at 4 rfl
    have f3:=Ja.f T7.out 3
    have HS9:=ξ (show WoSt w (w8.setCell ⟨b7,3,none⟩ (.slice pt x.terms.length ct)) bp b4 b5 _ _ _ pv cv p.vars rv T∧K6 (w8.setCell ⟨b7,3,none⟩ (.slice pt x.terms.length ct)) w.heap.size ⟨x.name,0,x.kind,pt,ct,x.terms,x.bound⟩ from by
     have hu:=J8 w8 b7 3 (.slice pt x.terms.length ct)
     have s:=HS.out
     exact⟨⟨Gr.set s.g (by have:=HN7.out.2.2.2.1;omega) _,s.tp.upd hu HN7.out.1,s.t4.upd hu HN7.out.2.1,s.t5.upd hu HN7.out.2.2.1,s.ov.other HN7'.out.2.1,s.orr.other HN7'.out.1,fun y hy=>OwnL.other (s.tt y hy) (HN7'.out.2.2 y hy),s.ne,s.nv,s.nt⟩,OwnL.other HO8.out HY8.out.2.2.2⟩)
    have q1:=HS9.out.1.t5.at 1 rfl
    have hb57:¬ b5=b7:=HN7.out.2.2.1
    have hb75:¬ b7=b5:=fun e=>hb57 e.symm
    go_wp2_with (at_builtin;refine Hold.hold ?_)
    clear t0 t1 t2 t3 t4 f3 q1 hb57 hb75
    have hsz:(w8.setCell ⟨b7,3,none⟩ (.slice pt x.terms.length ct)).heap.size=w8.heap.size:=by simp[World.setCell]
    rw[← hsz]
    clear hsz
    generalize w8.setCell _ _=W9 at HS9 ⊢
    have BS:=SlL.new (enc:=encRow) (sz:=5) W9 42 L1 [⟨x.name,0,x.kind,pt,ct,x.terms,x.bound⟩] #[.string ⟨x.name.toArray⟩,.int .i64 0,.int .i64 x.kind,.slice pt x.terms.length ct,.int .i64 x.bound] 1 rfl rfl (by decide)
    have HS:=ξ (HS9.out.1.grow BS.1)
    have HY:=ξ (show K6 _ w.heap.size ⟨x.name,0,x.kind,pt,ct,x.terms,x.bound⟩ from HS9.out.2.grow BS.1)
    have HBS:=ξ BS.2
    clear BS HS9 T7 HO8
    generalize W9.heap.size=bs at HBS ⊢
    generalize W9.alloc _=W10 at HS HBS HY ⊢
    refine Hold.go ?_
    refine wpList_plain rfl (fun K hK=>?_)
    refine O7 _ _ 23 42 _ 64 rfl Tryz.underlying23 Tx rfl (by decide) L1 Si w.heap.size rv _ T [⟨x.name,0,x.kind,pt,ct,x.terms,x.bound⟩] rfl HS.out.orr rfl HBS.out (by have:=HTK.out;simp;omega) (by have:=HTK.out;simp;omega) HS.out.g.size (by simp) ?_
    intro rv' W11 h1 h2 h3
    obtain⟨⟨q1,q2⟩,q3⟩:=HS.out.put HN5.out.1 HN5.out.2 h1 h2 h3 HY.out HY8.out.1 ⟨HY8.out.2.1,HY8.out.2.2.1⟩
    obtain⟨pr,cr,hrv,-,-⟩:=h1.read.parts
    obtain⟨ln,hln⟩:∃ n,(T ++ ([⟨x.name,0,x.kind,pt,ct,x.terms,x.bound⟩]:List RowM)).length=n:=⟨_,rfl⟩
    rw[hln] at hrv
    subst hrv
    obtain⟨pr0,cr0,hrv0,-,-⟩:=HS.out.orr.read.parts
    obtain⟨ln0,hln0⟩:∃ n,T.length=n:=⟨_,rfl⟩
    rw[hln0] at hrv0
    subst hrv0
    have HNX:=ξ q3
    clear h1 h2 h3 q3 hln hln0
    refine hK _ _ ?_
    clear hK K
    go_wp2_with fail
    clear q1 q2
    generalize W11.setCell _ _=W12 at HNX ⊢
    refine⟨⟨k+1,_,_,by go_num,by omega,?_,HNX.out⟩,by simp[RowKit.intOf];omega⟩
    rw[List.map_append,HQ.out,List.take_add_one,HXR.out]
    show _=p.rows.take k ++ [x.s]
    rw[List.map_cons,List.map_nil]
    have h:=HGR.out
    show p.rows.take k ++ [(⟨x.name,0,x.kind,x.terms,x.bound⟩:RowS)]=p.rows.take k ++ [(⟨x.name,x.group,x.kind,x.terms,x.bound⟩:RowS)]
    rw[h]
   ·have e0:(gr == 0)=false:=by simpa using hg
    go_wp2_with fail
    clear c0 c1 c2 c3 c4 e0 hg
    generalize wr.heap.size=b7 at T7 HN7 ⊢
    generalize wr.alloc _=W6 at T7 HS ⊢
    refine(J3z W6 gr).mono ?_
    rintro _ W7 ⟨_,rfl,g7,rfl⟩
    have HS:=ξ (HS.out.grow g7)
    have T7:=ξ (T7.out.grow g7)
    have t3:=T7.out.at 3 rfl
    clear g7
    go_wp2_with fail
    clear t3
    refine(Vq W7 x.tp x.terms.length x.tc x.terms (SlL.grow HXT.out HS.out.g) rfl HXL.out).mono ?_
    rintro _ w8 ⟨_,rfl,g8,pt,ct,rfl,ho8⟩
    have HY8:=ξ (show(∀ b,rv.ownBlock=some b→(Value.slice pt x.terms.length ct).ownBlock≠some b)∧(Value.slice pt x.terms.length ct).ownBlock≠some b4∧(Value.slice pt x.terms.length ct).ownBlock≠some b5∧(Value.slice pt x.terms.length ct).ownBlock≠some b7 from by
     have l:=World.ownsRow.lt ho8
     refine⟨fun b hb e=>?_,fun e=>?_,fun e=>?_,fun e=>?_⟩
     ·have h1:=(l _ e).1;have h2:=(World.ownsRow.lt HS.out.orr b hb).2;omega
     ·have h1:=(l _ e).1;have h2:=HS.out.t4.lt;omega
     ·have h1:=(l _ e).1;have h2:=HS.out.t5.lt;omega
     ·have h1:=(l _ e).1;have h2:=T7.out.lt;omega)
    have HO8:=ξ (OwnL.low ho8 HS.out.g.size)
    have HS:=ξ (HS.out.grow g8)
    have T7:=ξ (T7.out.grow g8)
    have HN7':=ξ HN7.out.2.2.2.2
    clear ho8 g8
    have t0:=T7.out.at 0 rfl
    have t1:=T7.out.at 1 rfl
    have t2:=T7.out.at 2 rfl
    have t3:=T7.out.at 3 rfl
    have t4:=T7.out.at 4 rfl
    have f3:=Ja.f T7.out 3
    have HS9:=ξ (show WoSt w (w8.setCell ⟨b7,3,none⟩ (.slice pt x.terms.length ct)) bp b4 b5 _ _ _ pv cv p.vars rv T∧K6 (w8.setCell ⟨b7,3,none⟩ (.slice pt x.terms.length ct)) w.heap.size ⟨x.name,gr,x.kind,pt,ct,x.terms,x.bound⟩ from by
     have hu:=J8 w8 b7 3 (.slice pt x.terms.length ct)
     have s:=HS.out
     exact⟨⟨Gr.set s.g (by have:=HN7.out.2.2.2.1;omega) _,s.tp.upd hu HN7.out.1,s.t4.upd hu HN7.out.2.1,s.t5.upd hu HN7.out.2.2.1,s.ov.other HN7'.out.2.1,s.orr.other HN7'.out.1,fun y hy=>OwnL.other (s.tt y hy) (HN7'.out.2.2 y hy),s.ne,s.nv,s.nt⟩,OwnL.other HO8.out HY8.out.2.2.2⟩)
    have q1:=HS9.out.1.t5.at 1 rfl
    have hb57:¬ b5=b7:=HN7.out.2.2.1
    have hb75:¬ b7=b5:=fun e=>hb57 e.symm
    go_wp2_with (at_builtin;refine Hold.hold ?_)
    clear t0 t1 t2 t3 t4 f3 q1 hb57 hb75
    have hsz:(w8.setCell ⟨b7,3,none⟩ (.slice pt x.terms.length ct)).heap.size=w8.heap.size:=by simp[World.setCell]
    rw[← hsz]
    clear hsz
    generalize w8.setCell _ _=W9 at HS9 ⊢
    have BS:=SlL.new (enc:=encRow) (sz:=5) W9 42 L1 [⟨x.name,gr,x.kind,pt,ct,x.terms,x.bound⟩] #[.string ⟨x.name.toArray⟩,.int .i64 gr,.int .i64 x.kind,.slice pt x.terms.length ct,.int .i64 x.bound] 1 rfl rfl (by decide)
    have HS:=ξ (HS9.out.1.grow BS.1)
    have HY:=ξ (show K6 _ w.heap.size ⟨x.name,gr,x.kind,pt,ct,x.terms,x.bound⟩ from HS9.out.2.grow BS.1)
    have HBS:=ξ BS.2
    clear BS HS9 T7 HO8
    generalize W9.heap.size=bs at HBS ⊢
    generalize W9.alloc _=W10 at HS HBS HY ⊢
    refine Hold.go ?_
    refine wpList_plain rfl (fun K hK=>?_)
    refine O7 _ _ 23 42 _ 64 rfl Tryz.underlying23 Tx rfl (by decide) L1 Si w.heap.size rv _ T [⟨x.name,gr,x.kind,pt,ct,x.terms,x.bound⟩] rfl HS.out.orr rfl HBS.out (by have:=HTK.out;simp;omega) (by have:=HTK.out;simp;omega) HS.out.g.size (by simp) ?_
    intro rv' W11 h1 h2 h3
    obtain⟨⟨q1,q2⟩,q3⟩:=HS.out.put HN5.out.1 HN5.out.2 h1 h2 h3 HY.out HY8.out.1 ⟨HY8.out.2.1,HY8.out.2.2.1⟩
    obtain⟨pr,cr,hrv,-,-⟩:=h1.read.parts
    obtain⟨ln,hln⟩:∃ n,(T ++ ([⟨x.name,gr,x.kind,pt,ct,x.terms,x.bound⟩]:List RowM)).length=n:=⟨_,rfl⟩
    rw[hln] at hrv
    subst hrv
    obtain⟨pr0,cr0,hrv0,-,-⟩:=HS.out.orr.read.parts
    obtain⟨ln0,hln0⟩:∃ n,T.length=n:=⟨_,rfl⟩
    rw[hln0] at hrv0
    subst hrv0
    have HNX:=ξ q3
    clear h1 h2 h3 q3 hln hln0
    refine hK _ _ ?_
    clear hK K
    go_wp2_with fail
    clear q1 q2
    generalize W11.setCell _ _=W12 at HNX ⊢
    refine⟨⟨k+1,_,_,by go_num,by omega,?_,HNX.out⟩,by simp[RowKit.intOf];omega⟩
    rw[List.map_append,HQ.out,List.take_add_one,HXR.out]
    show _=p.rows.take k ++ [x.s]
    rw[List.map_cons,List.map_nil]
    have h:=HGR.out
    show p.rows.take k ++ [(⟨x.name,gr,x.kind,x.terms,x.bound⟩:RowS)]=p.rows.take k ++ [(⟨x.name,x.group,x.kind,x.terms,x.bound⟩:RowS)]
    rw[h]
  ·obtain rfl:k=p.rows.length:=by omega
   have HS:=ξ HS.out
   obtain⟨pr,cr,hrv,-,-⟩:=HS.out.orr.read.parts
   have hlen:T.length=p.rows.length:=by have:=HTK.out;omega
   rw[hlen] at hrv
   subst hrv
   have y0:=HS.out.t5.at 0 rfl
   have y1:=HS.out.t5.at 1 rfl
   have d0:=HS.out.t4.at 0 rfl
   have d1:=HS.out.t4.at 1 rfl
   have f0:=Ja.f HS.out.t4 0
   have f1:=Ja.f HS.out.t4 1
   have hne1:¬ b4=b5:=HN5.out.2.2
   have hne2:¬ b5=b4:=fun e=>hne1 e.symm
   have hf:=fill2 (.slice pv p.vars.length cv) (.slice pr p.rows.length cr) HS.out.t4 HS.out.g HB4.out.1
   have HX:=ξ (And.intro hf.1 (And.intro hf.2.1 (And.intro (OwnL.fill HS.out.ov HS.out.nv.1 (.slice pv p.vars.length cv) (.slice pr p.rows.length cr)) (And.intro (OwnL.fill HS.out.orr (fun e=>(HS.out.ne b4 e).2.1 rfl) (.slice pv p.vars.length cv) (.slice pr p.rows.length cr)) (show ∀ y ∈ T,K6 _ w.heap.size y from fun y hy=>OwnL.fill (HS.out.tt y hy) (HS.out.nt y hy).1 (.slice pv p.vars.length cv) (.slice pr p.rows.length cr))))))
   clear hf hlen
   go_wp2_with fail
   clear y0 y1 d0 d1 f0 f1
   try rw[Exit.noGoto_ret]
   generalize (wr.setCell _ _).setCell _ _=W5 at HX ⊢
   have z0:=HX.out.2.1.at 0 rfl
   have z1:=HX.out.2.1.at 1 rfl
   refine bodyPost_ret (by simp[results,Tryz.results97,go_sem,z0,z1];rfl) rfl ?_
   exact⟨_,rfl,HX.out.1,pv,cv,pr,cr,T,rfl,HX.out.2.2.1,HX.out.2.2.2.1,by rw[HQ.out,List.take_length],HX.out.2.2.2.2,fun k hk=>⟨(HS.out.ne k hk).2.2.2.1,(HS.out.ne k hk).2.2.2.2⟩⟩
theorem Us (w:World)(u:Value)(c:CutS)(L:Nat)(hc:Lm w u c L):Calls Tryz.prog 99 #[u] w (Ret w fun r _=>Jb (Kh c) r):=by
 obtain⟨pm,nm,cm,pv,nv,cv,rfl,-,-,rfl,rfl⟩:=hc.parts
 clear hc
 have HI:=ξ (Zg (c:=c))
 obtain⟨k,hk⟩:∃ z,c.kind=z:=⟨_,rfl⟩
 obtain⟨rw',hrw⟩:∃ z,c.row=z:=⟨_,rfl⟩
 obtain⟨nv,hnv⟩:∃ z,c.vars.length=z:=⟨_,rfl⟩
 obtain⟨nm,hnm⟩:∃ z,c.mult.length=z:=⟨_,rfl⟩
 have HE:=ξ (show Kh c↔k=0∧rw'=0∧nm=0∧nv=0 from by rw[HI.out,hk,hrw,hnv,hnm])
 rw[hk,hrw,hnv,hnm]
 have HB:=ξ (show Gr w (w.alloc (.cells #[.int .i64 k,.slice pm nm cm,.int .i64 rw',.slice pv nv cv] 45)) from(Gr.refl _).alloc _)
 clear hk hrw hnv hnm
 by_cases h0:k=0
 ·subst h0
  by_cases h1:nm=0
  ·subst h1
   by_cases h2:rw'=0
   ·subst h2
    by_cases h3:nv=0
    ·subst h3
     have H:=ξ (show Kh c from HE.out.2 ⟨rfl,rfl,rfl,rfl⟩)
     go_enter Tryz.func99,Tryz.ntmps99
     go_wp2_with fail
     go_ret
     exact⟨_,rfl,HB.out,Jb.yes H.out⟩
    ·have e1:((nv:Int) == 0)=false:=by simpa using h3
     have H:=ξ (show ¬ Kh c from fun h=>h3 (HE.out.1 h).2.2.2)
     go_enter Tryz.func99,Tryz.ntmps99
     go_wp2_with fail
     go_ret
     exact⟨_,rfl,HB.out,Jb.no H.out⟩
   ·have e1:(rw' == 0)=false:=by simpa using h2
    have H:=ξ (show ¬ Kh c from fun h=>h2 (HE.out.1 h).2.1)
    go_enter Tryz.func99,Tryz.ntmps99
    go_wp2_with fail
    go_ret
    exact⟨_,rfl,HB.out,Jb.no H.out⟩
  ·have e1:((nm:Int) == 0)=false:=by simpa using h1
   have H:=ξ (show ¬ Kh c from fun h=>h1 (HE.out.1 h).2.2.1)
   go_enter Tryz.func99,Tryz.ntmps99
   go_wp2_with fail
   go_ret
   exact⟨_,rfl,HB.out,Jb.no H.out⟩
 ·have e1:(k == 0)=false:=by simpa using h0
  have H:=ξ (show ¬ Kh c from fun h=>h0 (HE.out.1 h).1)
  go_enter Tryz.func99,Tryz.ntmps99
  go_wp2_with fail
  go_ret
  exact⟨_,rfl,HB.out,Jb.no H.out⟩
def J3 (n:Jh)(a b c d:Bool):Prop:=(a=true∨n.mult.length=0)∧(b=true∨n.var=0)∧(c=true∨n.pos=0)∧(d=true∨Kh n.cut)
abbrev nodeA (x:Jm):Array Value:=#[.int .i64 x.kind,.slice x.mp x.mn x.mc,.int .i64 x.var,.int .i64 x.pos,.int .i64 x.ck,.slice x.cp x.cn x.cc,.int .i64 x.row,.slice x.vp x.vn x.vc]
theorem J6p (w:World)(b:Nat)(x:Jm)(n:Jh)(L:Nat)(hc:Ja w b (nodeA x))(hn:Kj w x n L):
  Calls Tryz.prog 98 #[.bool true,.bool false,.bool false,.bool false,.pointer (some ⟨b,0,none⟩)] w (Ret w fun r _=>Jb (J3 n true false false false) r):=by
 obtain⟨mn,hmn⟩:∃ z,n.mult.length=z:=⟨_,rfl⟩
 obtain⟨vr,hvr⟩:∃ z,n.var=z:=⟨_,rfl⟩
 obtain⟨ps,hps⟩:∃ z,n.pos=z:=⟨_,rfl⟩
 have HMN:=ξ hmn
 have HVR:=ξ hvr
 have HPS:=ξ hps
 have HCU:=ξ hn.cut
 unfold Jm.cutV at HCU
 have q1:w.cell? ⟨b,1,none⟩=some (.slice x.mp mn x.mc):=by rw[← hmn,← hn.mn];exact hc.at 1 rfl
 have q2:w.cell? ⟨b,2,none⟩=some (.int .i64 vr):=by rw[← hvr,← hn.var];exact hc.at 2 rfl
 have q3:w.cell? ⟨b,3,none⟩=some (.int .i64 ps):=by rw[← hps,← hn.pos];exact hc.at 3 rfl
 have q4:=hc.at 4 rfl
 have q5:=hc.at 5 rfl
 have q6:=hc.at 6 rfl
 have q7:=hc.at 7 rfl
 clear hc hn hmn hvr hps
 by_cases h0:vr=0
 ·subst h0
  by_cases h1:ps=0
  ·subst h1
   have HQ:=ξ (show(Kh n.cut→J3 n true false false false) from fun k=>⟨.inl rfl,.inr HVR.out,.inr HPS.out,.inr k⟩)
   go_enter Tryz.func98,Tryz.ntmps98
   go_wp2_with fail
   refine(Us w _ n.cut L HCU.out).mono ?_
   rintro _ w2 ⟨r2,rfl,g2,h2⟩
   have G:=ξ g2
   clear g2
   rcases h2.cases with⟨rfl,k2⟩|⟨rfl,k2⟩
   ·have H:=ξ (show J3 n true false false false from HQ.out k2)
    clear h2 k2
    go_wp2_with fail
    go_ret
    exact⟨_,rfl,G.out,Jb.yes H.out⟩
   ·have H:=ξ (show ¬ J3 n true false false false from fun h=>h.2.2.2.elim (fun h=>by cases h) k2)
    clear h2 k2
    go_wp2_with fail
    go_ret
    exact⟨_,rfl,G.out,Jb.no H.out⟩
  ·have e1:(ps == 0)=false:=by simpa using h1
   have H:=ξ (show ¬ J3 n true false false false from fun h=>h1 (by rw[← HPS.out];exact h.2.2.1.resolve_left (by decide)))
   go_enter Tryz.func98,Tryz.ntmps98
   go_wp2_with fail
   go_ret
   exact⟨_,rfl,Gr.refl _,Jb.no H.out⟩
 ·have e1:(vr == 0)=false:=by simpa using h0
  have H:=ξ (show ¬ J3 n true false false false from fun h=>h0 (by rw[← HVR.out];exact h.2.1.resolve_left (by decide)))
  go_enter Tryz.func98,Tryz.ntmps98
  go_wp2_with fail
  go_ret
  exact⟨_,rfl,Gr.refl _,Jb.no H.out⟩
theorem J6q (w:World)(b:Nat)(x:Jm)(n:Jh)(L:Nat)(hc:Ja w b (nodeA x))(hn:Kj w x n L):
  Calls Tryz.prog 98 #[.bool false,.bool true,.bool false,.bool false,.pointer (some ⟨b,0,none⟩)] w (Ret w fun r _=>Jb (J3 n false true false false) r):=by
 obtain⟨mn,hmn⟩:∃ z,n.mult.length=z:=⟨_,rfl⟩
 obtain⟨vr,hvr⟩:∃ z,n.var=z:=⟨_,rfl⟩
 obtain⟨ps,hps⟩:∃ z,n.pos=z:=⟨_,rfl⟩
 have HMN:=ξ hmn
 have HVR:=ξ hvr
 have HPS:=ξ hps
 have HCU:=ξ hn.cut
 unfold Jm.cutV at HCU
 have q1:w.cell? ⟨b,1,none⟩=some (.slice x.mp mn x.mc):=by rw[← hmn,← hn.mn];exact hc.at 1 rfl
 have q2:w.cell? ⟨b,2,none⟩=some (.int .i64 vr):=by rw[← hvr,← hn.var];exact hc.at 2 rfl
 have q3:w.cell? ⟨b,3,none⟩=some (.int .i64 ps):=by rw[← hps,← hn.pos];exact hc.at 3 rfl
 have q4:=hc.at 4 rfl
 have q5:=hc.at 5 rfl
 have q6:=hc.at 6 rfl
 have q7:=hc.at 7 rfl
 clear hc hn hmn hvr hps
 by_cases h0:mn=0
 ·subst h0
  by_cases h1:ps=0
  ·subst h1
   have HQ:=ξ (show(Kh n.cut→J3 n false true false false) from fun k=>⟨.inr HMN.out,.inl rfl,.inr HPS.out,.inr k⟩)
   go_enter Tryz.func98,Tryz.ntmps98
   go_wp2_with fail
   refine(Us w _ n.cut L HCU.out).mono ?_
   rintro _ w2 ⟨r2,rfl,g2,h2⟩
   have G:=ξ g2
   clear g2
   rcases h2.cases with⟨rfl,k2⟩|⟨rfl,k2⟩
   ·have H:=ξ (show J3 n false true false false from HQ.out k2)
    clear h2 k2
    go_wp2_with fail
    go_ret
    exact⟨_,rfl,G.out,Jb.yes H.out⟩
   ·have H:=ξ (show ¬ J3 n false true false false from fun h=>h.2.2.2.elim (fun h=>by cases h) k2)
    clear h2 k2
    go_wp2_with fail
    go_ret
    exact⟨_,rfl,G.out,Jb.no H.out⟩
  ·have e1:(ps == 0)=false:=by simpa using h1
   have H:=ξ (show ¬ J3 n false true false false from fun h=>h1 (by rw[← HPS.out];exact h.2.2.1.resolve_left (by decide)))
   go_enter Tryz.func98,Tryz.ntmps98
   go_wp2_with fail
   go_ret
   exact⟨_,rfl,Gr.refl _,Jb.no H.out⟩
 ·have e1:((mn:Int) == 0)=false:=by simpa using h0
  have H:=ξ (show ¬ J3 n false true false false from fun h=>h0 (by rw[← HMN.out];exact h.1.resolve_left (by decide)))
  go_enter Tryz.func98,Tryz.ntmps98
  go_wp2_with fail
  go_ret
  exact⟨_,rfl,Gr.refl _,Jb.no H.out⟩
theorem J6r (w:World)(b:Nat)(x:Jm)(n:Jh)(L:Nat)(hc:Ja w b (nodeA x))(hn:Kj w x n L):
  Calls Tryz.prog 98 #[.bool false,.bool true,.bool true,.bool false,.pointer (some ⟨b,0,none⟩)] w (Ret w fun r _=>Jb (J3 n false true true false) r):=by
 obtain⟨mn,hmn⟩:∃ z,n.mult.length=z:=⟨_,rfl⟩
 obtain⟨vr,hvr⟩:∃ z,n.var=z:=⟨_,rfl⟩
 obtain⟨ps,hps⟩:∃ z,n.pos=z:=⟨_,rfl⟩
 have HMN:=ξ hmn
 have HVR:=ξ hvr
 have HPS:=ξ hps
 have HCU:=ξ hn.cut
 unfold Jm.cutV at HCU
 have q1:w.cell? ⟨b,1,none⟩=some (.slice x.mp mn x.mc):=by rw[← hmn,← hn.mn];exact hc.at 1 rfl
 have q2:w.cell? ⟨b,2,none⟩=some (.int .i64 vr):=by rw[← hvr,← hn.var];exact hc.at 2 rfl
 have q3:w.cell? ⟨b,3,none⟩=some (.int .i64 ps):=by rw[← hps,← hn.pos];exact hc.at 3 rfl
 have q4:=hc.at 4 rfl
 have q5:=hc.at 5 rfl
 have q6:=hc.at 6 rfl
 have q7:=hc.at 7 rfl
 clear hc hn hmn hvr hps
 by_cases h0:mn=0
 ·subst h0
  have HQ:=ξ (show(Kh n.cut→J3 n false true true false) from fun k=>⟨.inr HMN.out,.inl rfl,.inl rfl,.inr k⟩)
  go_enter Tryz.func98,Tryz.ntmps98
  go_wp2_with fail
  refine(Us w _ n.cut L HCU.out).mono ?_
  rintro _ w2 ⟨r2,rfl,g2,h2⟩
  have G:=ξ g2
  clear g2
  rcases h2.cases with⟨rfl,k2⟩|⟨rfl,k2⟩
  ·have H:=ξ (show J3 n false true true false from HQ.out k2)
   clear h2 k2
   go_wp2_with fail
   go_ret
   exact⟨_,rfl,G.out,Jb.yes H.out⟩
  ·have H:=ξ (show ¬ J3 n false true true false from fun h=>h.2.2.2.elim (fun h=>by cases h) k2)
   clear h2 k2
   go_wp2_with fail
   go_ret
   exact⟨_,rfl,G.out,Jb.no H.out⟩
 ·have e1:((mn:Int) == 0)=false:=by simpa using h0
  have H:=ξ (show ¬ J3 n false true true false from fun h=>h0 (by rw[← HMN.out];exact h.1.resolve_left (by decide)))
  go_enter Tryz.func98,Tryz.ntmps98
  go_wp2_with fail
  go_ret
  exact⟨_,rfl,Gr.refl _,Jb.no H.out⟩
theorem J6s (w:World)(b:Nat)(x:Jm)(n:Jh)(L:Nat)(hc:Ja w b (nodeA x))(hn:Kj w x n L):
  Calls Tryz.prog 98 #[.bool false,.bool false,.bool false,.bool true,.pointer (some ⟨b,0,none⟩)] w (Ret w fun r _=>Jb (J3 n false false false true) r):=by
 obtain⟨mn,hmn⟩:∃ z,n.mult.length=z:=⟨_,rfl⟩
 obtain⟨vr,hvr⟩:∃ z,n.var=z:=⟨_,rfl⟩
 obtain⟨ps,hps⟩:∃ z,n.pos=z:=⟨_,rfl⟩
 have HMN:=ξ hmn
 have HVR:=ξ hvr
 have HPS:=ξ hps
 have HCU:=ξ hn.cut
 unfold Jm.cutV at HCU
 have q1:w.cell? ⟨b,1,none⟩=some (.slice x.mp mn x.mc):=by rw[← hmn,← hn.mn];exact hc.at 1 rfl
 have q2:w.cell? ⟨b,2,none⟩=some (.int .i64 vr):=by rw[← hvr,← hn.var];exact hc.at 2 rfl
 have q3:w.cell? ⟨b,3,none⟩=some (.int .i64 ps):=by rw[← hps,← hn.pos];exact hc.at 3 rfl
 have q4:=hc.at 4 rfl
 have q5:=hc.at 5 rfl
 have q6:=hc.at 6 rfl
 have q7:=hc.at 7 rfl
 clear hc hn hmn hvr hps
 by_cases h0:mn=0
 ·subst h0
  by_cases h1:vr=0
  ·subst h1
   by_cases h2:ps=0
   ·subst h2
    have H:=ξ (show J3 n false false false true from⟨.inr HMN.out,.inr HVR.out,.inr HPS.out,.inl rfl⟩)
    go_enter Tryz.func98,Tryz.ntmps98
    go_wp2_with fail
    go_ret
    exact⟨_,rfl,Gr.refl _,Jb.yes H.out⟩
   ·have e1:(ps == 0)=false:=by simpa using h2
    have H:=ξ (show ¬ J3 n false false false true from fun h=>h2 (by rw[← HPS.out];exact h.2.2.1.resolve_left (by decide)))
    go_enter Tryz.func98,Tryz.ntmps98
    go_wp2_with fail
    go_ret
    exact⟨_,rfl,Gr.refl _,Jb.no H.out⟩
  ·have e1:(vr == 0)=false:=by simpa using h1
   have H:=ξ (show ¬ J3 n false false false true from fun h=>h1 (by rw[← HVR.out];exact h.2.1.resolve_left (by decide)))
   go_enter Tryz.func98,Tryz.ntmps98
   go_wp2_with fail
   go_ret
   exact⟨_,rfl,Gr.refl _,Jb.no H.out⟩
 ·have e1:((mn:Int) == 0)=false:=by simpa using h0
  have H:=ξ (show ¬ J3 n false false false true from fun h=>h0 (by rw[← HMN.out];exact h.1.resolve_left (by decide)))
  go_enter Tryz.func98,Tryz.ntmps98
  go_wp2_with fail
  go_ret
  exact⟨_,rfl,Gr.refl _,Jb.no H.out⟩
theorem J4W {n:Jh}(h:n.kind=0):Kd n↔J3 n true false false false:=by
 rw[Lt];unfold J3
 constructor
 ·rintro(a|a|a|a)
  ·exact⟨.inl rfl,.inr a.2.2.1,.inr a.2.2.2,.inr a.2.1⟩
  all_goals omega
 ·rintro⟨_,b,c,d⟩
  exact .inl ⟨h,d.resolve_left (by decide),b.resolve_left (by decide),c.resolve_left (by decide)⟩
theorem J4X {n:Jh}(h:n.kind=1):Kd n↔J3 n false true false false:=by
 rw[Lt];unfold J3
 constructor
 ·rintro(a|a|a|a)
  ·omega
  ·exact⟨.inr (by rw[a.2.2.2];rfl),.inl rfl,.inr a.2.2.1,.inr a.2.1⟩
  all_goals omega
 ·rintro⟨a,b,c,d⟩
  exact .inr (.inl ⟨h,d.resolve_left (by decide),c.resolve_left (by decide),List.eq_nil_of_length_eq_zero (a.resolve_left (by decide))⟩)
theorem J4Y {n:Jh}(h:n.kind=2):Kd n↔J3 n false true true false:=by
 rw[Lt];unfold J3
 constructor
 ·rintro(a|a|a|a)
  ·omega
  ·omega
  ·exact⟨.inr (by rw[a.2.2];rfl),.inl rfl,.inl rfl,.inr a.2.1⟩
  ·omega
 ·rintro⟨a,b,c,d⟩
  exact .inr (.inr (.inl ⟨h,d.resolve_left (by decide),List.eq_nil_of_length_eq_zero (a.resolve_left (by decide))⟩))
theorem J4Z {n:Jh}(h:n.kind=3):Kd n↔J3 n false false false true:=by
 rw[Lt];unfold J3
 constructor
 ·rintro(a|a|a|a)
  ·omega
  ·omega
  ·omega
  ·exact⟨.inr (by rw[a.2.2.2];rfl),.inr a.2.1,.inr a.2.2.1,.inl rfl⟩
 ·rintro⟨a,b,c,d⟩
  exact .inr (.inr (.inr ⟨h,b.resolve_left (by decide),c.resolve_left (by decide),List.eq_nil_of_length_eq_zero (a.resolve_left (by decide))⟩))
theorem Tn {n:Jh}(h0:n.kind≠0)(h1:n.kind≠1)(h2:n.kind≠2)(h3:n.kind≠3):¬ Kd n:=by
 rw[Lt]
 rintro(a|a|a|a)
 ·exact h0 a.1
 ·exact h1 a.1
 ·exact h2 a.1
 ·exact h3 a.1
theorem Mm (w:World)(x:Jm)(n:Jh)(L:Nat)(hn:Kj w x n L):
  Calls Tryz.prog 51 #[.agg (nodeA x)] w (Ret w fun r _=>Jb (Kd n) r):=by
 have B:=Ja.new w (nodeA x) 47
 have HB:=ξ (show Gr w (w.alloc (.cells (nodeA x) 47))∧Ja _ w.heap.size (nodeA x)∧Kj _ x n L from⟨B.1,B.2,hn.grow B.1⟩)
 have hkx:=hn.kind
 clear B
 obtain⟨kd,mp,mn,mc,var,pos,ck,cp,cn,cc,row,vp,vn,vc⟩:=x
 dsimp only at hkx
 clear hn
 unfold nodeA at HB ⊢
 dsimp only at HB ⊢
 by_cases h0:kd=0
 ·subst h0
  have hkd:n.kind=0:=hkx.symm
  clear hkx
  have HK:=ξ hkd
  go_enter Tryz.func51,Tryz.ntmps51
  go_wp2_with fail
  generalize w.heap.size=b at HB ⊢
  generalize w.alloc _=W at HB ⊢
  refine(J6p W b ⟨0,mp,mn,mc,var,pos,ck,cp,cn,cc,row,vp,vn,vc⟩ n L HB.out.2.1 HB.out.2.2).mono ?_
  rintro _ w2 ⟨r2,rfl,g2,h2⟩
  have G:=ξ (HB.out.1.trans g2)
  have H2:=ξ (show Jb (Kd n) r2 from h2.iff (J4W HK.out).symm)
  clear g2 h2
  rcases H2.out.cases with⟨rfl,_⟩|⟨rfl,_⟩
  ·go_wp2_with fail
   try rw[Exit.noGoto_ret]
   go_ret
   exact⟨_,rfl,G.out,H2.out⟩
  ·go_wp2_with fail
   try rw[Exit.noGoto_ret]
   go_ret
   exact⟨_,rfl,G.out,H2.out⟩
 have e0:(kd == 0)=false:=by simpa using h0
 by_cases h1:kd=1
 ·subst h1
  have hkd:n.kind=1:=hkx.symm
  clear hkx e0 h0
  have HK:=ξ hkd
  go_enter Tryz.func51,Tryz.ntmps51
  go_wp2_with fail
  generalize w.heap.size=b at HB ⊢
  generalize w.alloc _=W at HB ⊢
  refine(J6q W b ⟨1,mp,mn,mc,var,pos,ck,cp,cn,cc,row,vp,vn,vc⟩ n L HB.out.2.1 HB.out.2.2).mono ?_
  rintro _ w2 ⟨r2,rfl,g2,h2⟩
  have G:=ξ (HB.out.1.trans g2)
  have H2:=ξ (show Jb (Kd n) r2 from h2.iff (J4X HK.out).symm)
  clear g2 h2
  rcases H2.out.cases with⟨rfl,_⟩|⟨rfl,_⟩
  ·go_wp2_with fail
   try rw[Exit.noGoto_ret]
   go_ret
   exact⟨_,rfl,G.out,H2.out⟩
  ·go_wp2_with fail
   try rw[Exit.noGoto_ret]
   go_ret
   exact⟨_,rfl,G.out,H2.out⟩
 have e1:(kd == 1)=false:=by simpa using h1
 by_cases h2:kd=2
 ·subst h2
  have hkd:n.kind=2:=hkx.symm
  clear hkx e0 h0 e1 h1
  have HK:=ξ hkd
  go_enter Tryz.func51,Tryz.ntmps51
  go_wp2_with fail
  generalize w.heap.size=b at HB ⊢
  generalize w.alloc _=W at HB ⊢
  refine(J6r W b ⟨2,mp,mn,mc,var,pos,ck,cp,cn,cc,row,vp,vn,vc⟩ n L HB.out.2.1 HB.out.2.2).mono ?_
  rintro _ w2 ⟨r2,rfl,g2,h2⟩
  have G:=ξ (HB.out.1.trans g2)
  have H2:=ξ (show Jb (Kd n) r2 from h2.iff (J4Y HK.out).symm)
  clear g2 h2
  rcases H2.out.cases with⟨rfl,_⟩|⟨rfl,_⟩
  ·go_wp2_with fail
   try rw[Exit.noGoto_ret]
   go_ret
   exact⟨_,rfl,G.out,H2.out⟩
  ·go_wp2_with fail
   try rw[Exit.noGoto_ret]
   go_ret
   exact⟨_,rfl,G.out,H2.out⟩
 have e2:(kd == 2)=false:=by simpa using h2
 by_cases h3:kd=3
 ·subst h3
  have hkd:n.kind=3:=hkx.symm
  clear hkx e0 h0 e1 h1 e2 h2
  have HK:=ξ hkd
  go_enter Tryz.func51,Tryz.ntmps51
  go_wp2_with fail
  generalize w.heap.size=b at HB ⊢
  generalize w.alloc _=W at HB ⊢
  refine(J6s W b ⟨3,mp,mn,mc,var,pos,ck,cp,cn,cc,row,vp,vn,vc⟩ n L HB.out.2.1 HB.out.2.2).mono ?_
  rintro _ w2 ⟨r2,rfl,g2,h2⟩
  have G:=ξ (HB.out.1.trans g2)
  have H2:=ξ (show Jb (Kd n) r2 from h2.iff (J4Z HK.out).symm)
  clear g2 h2
  rcases H2.out.cases with⟨rfl,_⟩|⟨rfl,_⟩
  ·go_wp2_with fail
   try rw[Exit.noGoto_ret]
   go_ret
   exact⟨_,rfl,G.out,H2.out⟩
  ·go_wp2_with fail
   try rw[Exit.noGoto_ret]
   go_ret
   exact⟨_,rfl,G.out,H2.out⟩
 have e3:(kd == 3)=false:=by simpa using h3
 have H:=ξ (show ¬ Kd n from Tn (by rw[← hkx];exact h0) (by rw[← hkx];exact h1) (by rw[← hkx];exact h2) (by rw[← hkx];exact h3))
 clear hkx h0 h1 h2 h3
 go_enter Tryz.func51,Tryz.ntmps51
 go_wp2_with fail
 go_ret
 exact⟨_,rfl,HB.out.1,Jb.no H.out⟩
end Prf
end Go.Proofs.YtcjgimlcefhhmaaGreatDoor
