/- Texts: CuA CuB CuC CuD CuH PvA. -/
import Derived.Test.YtcjgimlcefhhmaaGreatDoorC25
import Derived.Test.YtcjgimlcefhhmaaGreatDoorC26
set_option linter.unusedVariables false
set_option linter.unusedSimpArgs false
set_option maxRecDepth 100000
set_option maxHeartbeats 12800000
namespace Go.Proofs.YtcjgimlcefhhmaaGreatDoor
namespace Prf
open Go.RowKit Go.Lib
theorem SlL.none_nil {α:Type}{enc:α→List Value}{sz:Nat}{w:World}{n c:Nat}{l:List α}(h:SlL w sz enc (.slice none n c) l):l=[]∧n=0∧c=0:=by
 obtain⟨i,p',c',g,j,k,a⟩:=h;injection g with e1 e2 e3;subst e1 e3;have d:c=0:=by
  rcases a with a|⟨b,o,a,_⟩
  ·exact a
  ·cases a
 subst d;have f:l.length=0:=by omega
 exact⟨List.eq_nil_of_length_eq_zero f,by omega,rfl⟩
theorem J6q:(Tryz.prog.info? 75).map (fun i=>(i.zero,i.size,i.bytes))=some (some (.agg #[.int .i64 0,.int .i64 0]),2,16):=by kernel_rfl
theorem J33:∀ x,∀ u ∈ encTerm x,u.oneCell'=true:=fun x u a=>by
 simp[encTerm] at a;rcases a with rfl|rfl<;>rfl
theorem Su (w:World)(p:Option Addr)(n c:Nat)(l:List VarM)(d:SlL w 5 encVar (.slice p n c) l)(b:l.length=n)(x:n≤1000000):
  Calls Tryz.prog 95 #[.slice p n c] w (Ret w fun r w'=>∃ p' c',r = .slice p' n c'∧OwnL w' w.heap.size 62 5 encVar (.slice p' n c') l):=by
 have z:=fun(w:World) (a:Option Addr) (n c:Nat)=>Lib.run_eql_slice_nil (P:=Tryz.prog) w 22 62 a n c 0 0 Tryz.underlying22
 cases p with
 | none=>
  obtain⟨rfl,rfl,rfl⟩:=SlL.none_nil d;clear d;go_enter Tryz.func95,Tryz.ntmps95;go_wp2_with fail;try rw[Exit.noGoto_ret]
  go_ret;exact⟨_,rfl,Gr.refl _,none,0,rfl,OwnL.nil _ _ _⟩
 | some ad=>
  subst b;have k:=Z d;clear d;obtain⟨n,b⟩:∃ n,l.length=n:=⟨_,rfl⟩
  have i:=Z b;rw[b] at x k ⊢;clear b;have m:Jy #[] 62 w.heap.size (w.alloc (.cells #[] 62)):=Jy.new _ _ _;have o:Gr w (w.alloc (.cells #[] 62)):=(Gr.refl _).alloc _;obtain⟨f,h⟩:=Z2 m o;clear m o;go_enter Tryz.func95,Tryz.ntmps95;go_wp2_with (at_builtin;refine Hold.hold ?_);generalize y:w.heap.size=b8 at f ⊢;generalize w.alloc _=W at f h ⊢;refine Hold.go ?_;refine wpList_plain rfl (fun K q=>?_);refine Px _ _ 22 62 _ 32 rfl Tryz.underlying22 Sa rfl (by decide) K0 Q9 b8 b8 (.slice (some ad) n c) l rfl f.o (Nat.le_refl _) rfl (SlL.grow k.o h.o) (by rw[i.o];omega) (by rw[i.o];omega) ?_;intro B w' j g _;have u:=Z (h.o.trans g);obtain⟨p',c',t,_,_⟩:=j.read.parts;rw[i.o] at t;subst t;have v:=Z j;clear j g;refine q _ _ ?_;clear q K;go_wp2_with fail;go_ret;exact⟨_,rfl,u.o,p',c',rfl,by rw[y];exact v.o⟩
theorem Xa (w:World)(p:Option Addr)(n c:Nat)(l:List Ji)(d:SlL w 2 encTerm (.slice p n c) l)(b:l.length=n)(x:n≤1000000):
  Calls Tryz.prog 150 #[.slice p n c] w (Ret w fun r w'=>∃ p' c',r = .slice p' n c'∧OwnL w' w.heap.size 75 2 encTerm (.slice p' n c') l):=by
 have z:=fun(w:World) (a:Option Addr) (n c:Nat)=>Lib.run_eql_slice_nil (P:=Tryz.prog) w 40 75 a n c 0 0 Tryz.underlying40
 cases p with
 | none=>
  obtain⟨rfl,rfl,rfl⟩:=SlL.none_nil d;clear d;go_enter Tryz.func150,Tryz.ntmps150;go_wp2_with fail;try rw[Exit.noGoto_ret]
  go_ret;exact⟨_,rfl,Gr.refl _,none,0,rfl,OwnL.nil _ _ _⟩
 | some ad=>
  subst b;have k:=Z d;clear d;obtain⟨n,b⟩:∃ n,l.length=n:=⟨_,rfl⟩
  have i:=Z b;rw[b] at x k ⊢;clear b;have m:Jy #[] 75 w.heap.size (w.alloc (.cells #[] 75)):=Jy.new _ _ _;have o:Gr w (w.alloc (.cells #[] 75)):=(Gr.refl _).alloc _;obtain⟨f,h⟩:=Z2 m o;clear m o;go_enter Tryz.func150,Tryz.ntmps150;go_wp2_with (at_builtin;refine Hold.hold ?_);generalize y:w.heap.size=b8 at f ⊢;generalize w.alloc _=W at f h ⊢;refine Hold.go ?_;refine wpList_plain rfl (fun K q=>?_);refine Px _ _ 40 75 _ 16 rfl Tryz.underlying40 J6q rfl (by decide) Mm J33 b8 b8 (.slice (some ad) n c) l rfl f.o (Nat.le_refl _) rfl (SlL.grow k.o h.o) (by rw[i.o];omega) (by rw[i.o];omega) ?_;intro B w' j g _;have u:=Z (h.o.trans g);obtain⟨p',c',t,_,_⟩:=j.read.parts;rw[i.o] at t;subst t;have v:=Z j;clear j g;refine q _ _ ?_;clear q K;go_wp2_with fail;go_ret;exact⟨_,rfl,u.o,p',c',rfl,by rw[y];exact v.o⟩
theorem P3 (w:World)(v:Value)(p:Prg)(j:Int)(R:Js w v p):
  Calls Tryz.prog 259 #[v,.int .i64 j] w (Ret w fun r _=>Jb (Kb p j) r):=by
 obtain⟨S,X,U,Y,rfl,y,t⟩:=R;obtain⟨M,HR⟩:=Z2 y t;obtain⟨_,_,_,a4,a5⟩:=SlL.parts y;obtain⟨_,_,_,a2,a3⟩:=t.parts;clear y t;have D:=Ja.new w #[.slice S p.vars.length X,.slice U p.rows.length Y] 25;have a:=Z D;unfold prgV;clear D;by_cases E:j < 0
 ·go_enter Tryz.func259,Tryz.ntmps259;go_wp2_with fail;generalize w.heap.size=bp at a ⊢;generalize w.alloc _=W at a ⊢;obtain⟨G,N⟩:=Z2 a.o.1 a.o.2;clear a;go_ret;exact⟨_,rfl,G.o,Jb.no fun⟨x,h,_⟩=>by omega⟩
 have a0:0≤j:=by omega
 by_cases F:(p.vars.length:Int)≤j
 ·clear E;go_enter Tryz.func259,Tryz.ntmps259;go_wp2_with fail;generalize w.heap.size=bp at a ⊢;generalize w.alloc _=W at a ⊢;obtain⟨G,N⟩:=Z2 a.o.1 a.o.2;clear a;go_ret;exact⟨_,rfl,G.o,by simpa[F] using(Jb.no (P:=Kb p j) fun⟨x,h,i,_⟩=>by have:=(List.getElem?_eq_some_iff.1 i).1;omega)⟩
 have a1:j < (p.vars.length:Int):=by omega
 obtain⟨k,rfl⟩:∃ k:Nat,j=k:=⟨j.toNat,by omega⟩
 obtain⟨b,o,x,rfl,g,I⟩:=K5 M.o rfl (show k < p.vars.length by omega);obtain⟨c0,O,c2,c3,c4⟩:=I _ a.o.1;have HX:=Z g;obtain⟨K,l⟩:∃ b,x.ig=b:=⟨_,rfl⟩
 obtain⟨L,q⟩:∃ b,x.op=b:=⟨_,rfl⟩
 obtain⟨B,m⟩:∃ b,x.lo=b:=⟨_,rfl⟩
 obtain⟨C,u⟩:∃ b,x.up=b:=⟨_,rfl⟩
 rw[l] at c3;rw[q] at c2;rw[m] at c0;rw[u] at O;have c:=Z (show Kb p (k:Int)↔K=true∧L=false∧B=0∧C=1 from by
  subst l q m u;constructor
  ·intro ⟨z,_,J,i⟩;rw[Int.toNat_natCast,g] at J
   cases J
   exact i
  ·intro h;exact⟨x,by omega,by rw[Int.toNat_natCast];exact g,h⟩)
 clear g I l q m u E F
 cases K
 ·have H:=Z (show ¬ Kb p (k:Int) from fun h=>by have:=(c.o.1 h).1;cases this);go_enter Tryz.func259,Tryz.ntmps259;go_wp2_with fail;go_ret;exact⟨_,rfl,a.o.1,Jb.no H.o⟩
 cases L
 rotate_left
 ·have H:=Z (show ¬ Kb p (k:Int) from fun h=>by have:=(c.o.1 h).2.1;cases this);go_enter Tryz.func259,Tryz.ntmps259;go_wp2_with fail;go_ret;exact⟨_,rfl,a.o.1,Jb.no H.o⟩
 by_cases d:B=0
 ·subst d;by_cases f:C=1
  ·subst f;have H:=Z (show Kb p (k:Int) from c.o.2 ⟨rfl,rfl,rfl,rfl⟩);go_enter Tryz.func259,Tryz.ntmps259;go_wp2_with fail;go_ret;exact⟨_,rfl,a.o.1,Jb.yes H.o⟩
  ·have Q:(C == 1)=false:=by simpa using f
   have H:=Z (show ¬ Kb p (k:Int) from fun h=>f (c.o.1 h).2.2.2);clear f;go_enter Tryz.func259,Tryz.ntmps259;go_wp2_with fail;go_ret;exact⟨_,rfl,a.o.1,Jb.no H.o⟩
 ·have Q:(B == 0)=false:=by simpa using d
  have H:=Z (show ¬ Kb p (k:Int) from fun h=>d (c.o.1 h).2.2.1);clear d;go_enter Tryz.func259,Tryz.ntmps259;go_wp2_with fail;go_ret;exact⟨_,rfl,a.o.1,Jb.no H.o⟩
theorem V8 (w:World)(j:Value)(z:Int)(h:IntC w j z):
  Calls Tryz.prog 251 #[j] w (Ret w fun r w'=>RatC w' r (z:Rat)):=by
 obtain⟨f,d,b,rfl⟩:=h.agg;obtain⟨g,c⟩:∃ s,decide (z < 0)=s:=⟨_,rfl⟩
 rw[c] at h ⊢;have H:=Z h;obtain⟨g1,t0,i⟩:=box23 w (.bool g) (.slice f d b) (.bool g) (.slice f d b) (.slice none 0 0) 66 68;have a:=Z (And.intro g1 (And.intro i (RatC.ofInt (h.grow g1))));clear h g1 t0 i c;go_enter Tryz.func251,Tryz.ntmps251;go_wp2_with fail;generalize w.heap.size+1=b5 at a ⊢;generalize (w.alloc _).alloc _=o at a ⊢;have k:=a.o.2.1.load.1;have l:=a.o.2.1.load.2.1;have m:=a.o.2.1.load.2.2;refine bodyPost_ret (by simp[results,Tryz.results251,go_sem,k,l,m];rfl) rfl ?_;exact⟨_,rfl,a.o.1,a.o.2.2⟩
def J1R (z:Int)(r:Value):Prop:=∃ n t,r = .tuple #[.int .i64 n,.bool t]∧(t=true↔In z)∧(t=true→n=z)
theorem V7 (w:World)(g:Value)(z:Int)(L:Nat)(h:RatV w g (z:Rat) L)(m:L≤1000):
  Calls Tryz.prog 254 #[g] w (Ret w fun r _=>J1R z r):=by
 have j:=Z h;obtain⟨v,u,o,k,l,p,q,rfl⟩:=h.agg;clear h;have B:=box3 w (.bool v) (.slice u o k) (.slice l p q) 68;have b:=Z B;have x:=B.2.load.1;have y:=B.2.load.2.1;have C:=B.2.load.2.2;clear B;go_enter Tryz.func254,Tryz.ntmps254;go_wp2_with fail;clear x y C;generalize w.alloc _=W at b ⊢;obtain⟨t,c⟩:∃ t,fits z=t:=⟨_,rfl⟩
 refine(J5l W _ (z:Rat) t L (j.o.grow b.o.1) (by rw[← c];simp) m).mono ?_;rintro _ D ⟨_,rfl,g1,rfl⟩;have G:=Z (b.o.1.trans g1);rw[show(z:Rat).num=z from rfl];clear g1
 cases t
 ·have i:=Z (show ¬ In z from fun h=>by
   have:=Kd h;unfold fits at c;simp at c;omega)
  simp only[Bool.false_eq_true,if_false];go_wp2_with fail;refine bodyPost_ret (by simp[results,Tryz.results254,go_sem];rfl) rfl ?_;exact⟨_,rfl,G.o,0,false,rfl,by simp[i.o],fun h=>by cases h⟩
 ·simp only[if_true];by_cases d : -1099511627776≤z
  ·by_cases f:z≤1099511627776
   ·have a:=Z (show In z from⟨d,f⟩);go_wp2_with fail;refine bodyPost_ret (by simp[results,Tryz.results254,go_sem];rfl) rfl ?_;exact⟨_,rfl,G.o,z,true,rfl,by simp[a.o],fun _=>rfl⟩
   ·have a:=Z (show ¬ In z from fun h=>f h.2);go_wp2_with fail;refine bodyPost_ret (by simp[results,Tryz.results254,go_sem];rfl) rfl ?_;exact⟨_,rfl,G.o,z,false,rfl,by simp[a.o],fun h=>by cases h⟩
  ·have a:=Z (show ¬ In z from fun h=>d h.1);go_wp2_with fail;refine bodyPost_ret (by simp[results,Tryz.results254,go_sem];rfl) rfl ?_;exact⟨_,rfl,G.o,z,false,rfl,by simp[a.o],fun h=>by cases h⟩
theorem Y3 (w:World)(a q:Option Addr)(c n b:Nat)(vs:List VarM)(A:Nat→Int)(k:vs.length=n)(l:K8 w (.slice a n c) vs)(i:Kq w (.slice q n b) n (fun j=>(A j:Rat)) 80)(d:Jo ⟨vs,[]⟩)(m:Whole ⟨vs,[]⟩)
  (h:∀ j,In (A j)) (g:n≤10):
  Calls Tryz.prog 91 #[.agg #[.slice a n c,.slice none 0 0],.slice q n b] w (Ret w fun r w'=>(K7 vs∧r = .tuple #[.agg #[.bool false,.slice none 0 0,.slice none 0 0],.bool false])∨(¬ K7 vs∧∃ u,r = .tuple #[u,.bool true]∧RatC w' u (leastS vs fun j=>(A j:Rat)))):=by
 subst k;have f:=Ps d.2.2.1 h g;exact Y2 w _ ⟨vs,[]⟩ q b _ ⟨a,c,none,0,rfl,l,[],SlL.nil w,rfl,by simp⟩ i d m f.1 f.2
structure CvSt (W w:World)(br b7 bg b10 n cap:Nat)(cr:Array Value)(u0 u1:Value)(bp:Nat)(vs:List VarM)(s:Rat):Prop where
 cv:La W w b7 bg n cap vs
 tp:Ja w bp #[u0,u1]
 tr:Ja w br cr
 t10:J9 w b10 s
section
variable {W w w':World}{br b7 bg b10 n cap:Nat}{cr:Array Value}{u0 u1:Value}{bp:Nat}{vs:List VarM}{s:Rat}
theorem CvSt.grow (h:CvSt W w br b7 bg b10 n cap cr u0 u1 bp vs s)(g:Gr w w'):CvSt W w' br b7 bg b10 n cap cr u0 u1 bp vs s:=⟨h.cv.grow g,h.tp.grow g,h.tr.grow g,h.t10.grow g⟩
theorem La.setO (h:La W w b7 bg n cap vs){bo k:Nat}(t:RatM)(b:W.heap.size≤bo)(c:b7≠bo)(d:bg≠bo):La W (setRat w bo k t) b7 bg n cap vs:=by
 refine⟨Pi h.g b k t,h.tq.upd (Nb _ _ _ _) c,?_⟩;unfold setRat;have a:(Value.slice (some ⟨bg,0,none⟩) n cap).ownBlock≠some bo:=fun e=>d (Option.some.inj e);exact((h.ro.other a).other a).other a
theorem CvSt.setO (h:CvSt W w br b7 bg b10 n cap cr u0 u1 bp vs s){bo k:Nat}(t:RatM)(j:Kp w bo)(b:W.heap.size≤bo)(c:b7≠bo)(d:bg≠bo)(f:bp≠bo)(g:br≠bo)(i:b10≠bo):CvSt W (setRat w bo k t) br b7 bg b10 n cap cr u0 u1 bp vs s:=
 have a:=Nb w bo k t
 ⟨h.cv.setO t b c d,h.tp.upd a f,h.tr.upd a g,h.t10.upd j a i⟩
theorem CvSt.putS (h:CvSt W w br b7 bg b10 n cap cr u0 u1 bp vs s){s':Rat}{t:RatM}(k:b7≠b10∧bg≠b10∧bp≠b10∧br≠b10∧W.heap.size≤b10)(c:RatC w t.v s'):CvSt W (set3 w b10 (.bool t.n) (.slice t.p t.k t.c) (.slice t.q t.m t.e)) br b7 bg b10 n cap cr u0 u1 bp vs s':=by
 have b:=upd3 w b10 (.bool t.n) (.slice t.p t.k t.c) (.slice t.q t.m t.e);have a:(Value.slice (some ⟨bg,0,none⟩) n cap).ownBlock≠some b10:=fun e=>k.2.1 (Option.some.inj e);refine⟨⟨Ks h.cv.g k.2.2.2.2 _ _ _,h.cv.tq.upd b k.1,?_⟩,h.tp.upd b k.2.2.1,h.tr.upd b k.2.2.2.1,h.t10.put c⟩;unfold set3;exact((h.cv.ro.other a).other a).other a
end
theorem J2j (w:World)(v:Value)(p:Prg)(x:RowM)(l:List Int)(pv:Option Addr)(cv:Nat)(hp:Js w v p)(hx:L2 w x)(f9:J2 p.vars.length x.s)(hk:Jo p)(hw:Whole p)(hn:p.vars.length≤10)
  (hb:∀ v ∈ l,Kb p v) (hl:Mi w (.slice pv l.length cv) l) (c2:l≠[]) (k0:l.length≤1000000):
  Calls Tryz.prog 256 #[v,rowV x,.slice pv l.length cv] w (Ret w fun r _=>Jb (Lb p.vars x.s l) r):=by
 obtain⟨HK,HW,HL,g9,j7,J,HX⟩:=Z7 hk hw hl hb c2 f9 hx;have j2:0 < p.vars.length:=by
  cases l with
  | nil=>exact absurd rfl c2
  | cons a l=>
   have:=Oi (hb a (List.mem_cons_self ..));omega
 clear hk hw hl hb c2 f9 hx;obtain⟨va,vc,vb,vd,rfl,hv,hr⟩:=hp;have HV:=Z hv;clear hv hr;have B0:=Ja.new w #[.slice va p.vars.length vc,.slice vb p.rows.length vd] 25;have B1:=Ja.new (w.alloc (.cells #[.slice va p.vars.length vc,.slice vb p.rows.length vd] 25)) #[.string ⟨x.name.toArray⟩,.int .i64 x.group,.int .i64 x.kind,.slice x.tp x.terms.length x.tc,.int .i64 x.bound] 42;simp only[World.size_alloc] at B1;have HB:=Z (show Gr w _∧Ja _ w.heap.size #[.slice va p.vars.length vc,.slice vb p.rows.length vd]∧Ja _ (w.heap.size+1) #[.string ⟨x.name.toArray⟩,.int .i64 x.group,.int .i64 x.kind,.slice x.tp x.terms.length x.tc,.int .i64 x.bound] from⟨B0.1.trans B1.1,B0.2.grow B1.1,B1.2⟩);clear B0 B1;unfold prgV rowV;go_enter Tryz.func256,Tryz.ntmps256;go_wp2_with fail;generalize i5:w.heap.size+1=br at HB ⊢;generalize i4:w.heap.size=bp at HB ⊢;generalize (w.alloc _).alloc _=W at HB ⊢;obtain⟨G,TP,TR⟩:=Z3 HB.o.1 HB.o.2.1 HB.o.2.2;clear HB i5 i4;refine(Su W va p.vars.length vc p.vars (SlL.grow HV.o G.o) rfl (by omega)).mono ?_;rintro _ w2 ⟨_,rfl,F,pg,cg,rfl,e0⟩;obtain⟨bg,cap,j4,e5,e6,j8,j9⟩:=OwnL.made e0 j2;injection j4 with e1 e2 e3;subst e1 e3;have B7:=Ja.new w2 #[.slice (some ⟨bg,0,none⟩) p.vars.length cg,.slice none 0 0] 25;have c7:=Z (show w.heap.size≤W.heap.size∧bp < W.heap.size∧br < W.heap.size∧W.heap.size≤bg∧bg < w2.heap.size∧W.heap.size≤w2.heap.size from⟨G.o.size,TP.o.lt,TR.o.lt,e5,e6,F.size⟩);have c5:=Z (show La w (w2.alloc (.cells #[.slice (some ⟨bg,0,none⟩) p.vars.length cg,.slice none 0 0] 25)) w2.heap.size bg p.vars.length cg p.vars from
  ⟨(G.o.trans F).trans B7.1,B7.2,OwnL.low (e0.grow B7.1) G.o.size⟩)
 obtain⟨TP,TR,b2,h8⟩:=Z4 (TP.o.grow (F.trans B7.1)) (TR.o.grow (F.trans B7.1)) (show w2.heap.size≠bg∧w.heap.size≤bg∧bp≠bg∧br≠bg from by have:=c7.o;omega) (show bp≠w2.heap.size∧br≠w2.heap.size∧w.heap.size≤w2.heap.size from by have:=c7.o;omega);clear e0 F B7 e5 e6 G;go_wp2_with fail;generalize w2.heap.size=b7 at c5 b2 h8 c7 ⊢;generalize w2.alloc _=W3 at c5 TP TR ⊢;go_loopw [22] (fun i D=>∃ k:Nat,i = .int .i64 (k:Int)∧k≤l.length∧La w D b7 bg p.vars.length cg (lowAll p.vars (l.take k))∧Ja D bp #[.slice va p.vars.length vc,.slice vb p.rows.length vd]∧Ja D br #[.string ⟨x.name.toArray⟩,.int .i64 x.group,.int .i64 x.kind,.slice x.tp x.terms.length x.tc,.int .i64 x.bound]) (fun i _=>l.length - (RowKit.intOf i).toNat)
 case atStart=>exact⟨0,rfl,Nat.zero_le _,c5.o,TP.o,TR.o⟩
 case round=>
  clear c5 TP TR;obtain⟨k,rfl,hk,hq,a5,f8⟩:=hrel;obtain⟨d,TP,TR⟩:=Z3 hq a5 f8;clear hq a5 f8;by_cases i9:k < l.length
  ·have k1:(k:Int) < (l.length:Int):=by omega
   have f6:IntKind.i64.wrap ((k:Int)+1)=(k:Int)+1:=by rw[IntKind.wrap_i64];omega
   obtain⟨b,o,z,rfl,hz,e7⟩:=Lm HL.o rfl i9;have h0:=Z (g9.o z (List.mem_of_getElem? hz));have g8:=Oi h0.o;obtain⟨zn,rfl⟩:∃ n:Nat,z=(n:Int):=⟨z.toNat,by omega⟩
   have g7:zn < (lowAll p.vars (l.take k)).length:=by rw[Mb];omega
   have k2:(zn:Int) < (p.vars.length:Int):=g8.2;have k3:zn < p.vars.length:=by omega
   obtain⟨y,hy⟩:∃ y,(lowAll p.vars (l.take k))[zn]?=some y:=⟨_,List.getElem?_eq_getElem g7⟩
   obtain⟨HZ,HY⟩:=Z2 hz hy;have z0:=e7 wr d.o.g;have q0:=d.o.tq.at 0 rfl;clear g8 g7 hz e7;obtain⟨r1,r2,r3,r4,r5⟩:=OwnL.putS K0 d.o.ro { y with lo:=1 } 0 (.int .i64 1) hy (by decide) rfl;rw[Nat.add_zero] at r3 r4 r5;have j5:wr.cell? ⟨bg,zn * 5,none⟩=some (.int .i64 y.lo):=r3;have I:=Z (show La w (wr.setCell ⟨bg,zn * 5,none⟩ (.int .i64 1)) b7 bg p.vars.length cg (lowAll p.vars (l.take (k+1)))∧Ja (wr.setCell ⟨bg,zn * 5,none⟩ (.int .i64 1)) bp _∧Ja (wr.setCell ⟨bg,zn * 5,none⟩ (.int .i64 1)) br _ from
    ⟨⟨Gr.set d.o.g (by have:=b2.o.2.1;omega) _,d.o.tq.upd (J5 _ _ _ _) b2.o.1,by rw[Zb HZ.o,J14 HY.o];exact r5⟩,TP.o.upd (J5 _ _ _ _) b2.o.2.2.1,TR.o.upd (J5 _ _ _ _) b2.o.2.2.2⟩)
   clear r1 r2 r3 r5 hy;go_wp2_with fail;generalize wr.setCell _ _=L at I ⊢;clear j5 r4 q0 z0;exact⟨⟨k+1,by go_num,by omega,I.o.1,I.o.2.1,I.o.2.2⟩,by simp[RowKit.intOf];omega⟩
  ·obtain rfl:k=l.length:=by omega
   have d:=Z (show La w wr b7 bg p.vars.length cg (lowAll p.vars l) from by have:=d.o;rwa [List.take_length] at this);go_wp2_with fail;refine(Md wr 1 (by decide) (by decide)).mono ?_;rintro _ w4 ⟨r4,rfl,g4,h4⟩;obtain⟨s8,p8,k8,c8,e8,m8,n8,rfl⟩:=h4.agg;have b0:=box3 w4 (.bool s8) (.slice p8 k8 c8) (.slice e8 m8 n8) 68;have c4:=Z (show b7≠w4.heap.size∧bg≠w4.heap.size∧bp≠w4.heap.size∧br≠w4.heap.size∧w.heap.size≤w4.heap.size from by
    have E:=(d.o.grow g4).tq.lt;have M:=(TP.o.grow g4).lt;have h3:=(TR.o.grow g4).lt;have h5:=(d.o.grow g4).g.size;have h6:=(World.ownsRow.lt (d.o.grow g4).ro bg rfl).2;exact⟨by omega,by omega,by omega,by omega,h5⟩)
   have d:=Z (show CvSt w (w4.alloc (.cells #[.bool s8,.slice p8 k8 c8,.slice e8 m8 n8] 68)) br b7 bg w4.heap.size p.vars.length cg #[.string ⟨x.name.toArray⟩,.int .i64 x.group,.int .i64 x.kind,.slice x.tp x.terms.length x.tc,.int .i64 x.bound] (.slice va p.vars.length vc) (.slice vb p.rows.length vd) bp (lowAll p.vars l) ((1:Int):Rat) from
    ⟨d.o.grow (g4.trans b0.1),TP.o.grow (g4.trans b0.1),TR.o.grow (g4.trans b0.1),⟨⟨s8,p8,k8,c8,e8,m8,n8⟩,b0.2,by have:=h4.grow b0.1;exact this⟩⟩)
   clear h4 g4 b0 TP TR;obtain⟨kd,d8⟩:∃ k,x.kind=k:=⟨_,rfl⟩
   have e4:=Z (show sgnR x.s=if kd=1 then -1 else 1 from by unfold sgnR;rw[show x.s.kind=kd from d8]);have y2:(w4.alloc (.cells #[.bool s8,.slice p8 k8 c8,.slice e8 m8 n8] 68)).cell? ⟨br,2,none⟩=some (.int .i64 kd):=by rw[← d8];exact d.o.tr.at 2 rfl
   clear d8;by_cases E:kd=1
   ·subst E;have d5:=Z (show sgnR x.s = -1 from by rw[e4.o,if_pos rfl]);go_wp2_with fail;clear y2;generalize w4.heap.size=b10 at d c4 ⊢;generalize w4.alloc _=W4 at d ⊢;refine(Md W4 (-1) (by decide) (by decide)).mono ?_;rintro _ w5 ⟨r5,rfl,g5,h5⟩;obtain⟨s9,Y,S,c9,R,U,X,rfl⟩:=h5.agg;have d:=Z (d.o.grow g5);obtain⟨t1,q,-⟩:=d.o.t10;have f0:=q.load.1;have f1:=q.load.2.1;have f2:=q.load.2.2;have f3:=q.f0 0;have f4:=q.f0 1;have f5:=q.f0 2;have y0:=d.o.tp.at 0 rfl;have f7:¬ bp=b10:=c4.o.2.2.1;have j1:¬ b10=bp:=fun e=>f7 e.symm;have d:=Z (d.o.putS (t:=⟨s9,Y,S,c9,R,U,X⟩) c4.o h5);clear h5 g5 q;go_wp2_with (at_make;refine Hold.hold ?_);unfold set3 at d;try dsimp only at d
    generalize ((w5.setCell _ _).setCell _ _).setCell _ _=L at d ⊢;clear f0 f1 f2 f3 f4 f5 y0 f7 j1;refine Hold.go ?_;refine Pv rfl _ _ 33 rfl (by kernel_rfl) p.vars.length _ rfl rfl rfl (by omega) ?_;intro W6 ho O;have N:=Z (show w.heap.size≤L.heap.size∧b7≠L.heap.size∧bg≠L.heap.size∧bp≠L.heap.size∧br≠L.heap.size∧b10≠L.heap.size from by
     have E:=d.o.cv.tq.lt;have M:=d.o.tp.lt;have h3:=d.o.tr.lt;have h5:=d.o.cv.g.size;have h6:=(World.ownsRow.lt d.o.cv.ro bg rfl).2;have q:=d.o.t10.lt;exact⟨h5,by omega,by omega,by omega,by omega,by omega⟩)
    obtain⟨d,g⟩:=Z2 (d.o.grow O) ho;generalize L.heap.size=bo at g N ⊢;have y3:=d.o.tr.at 3 rfl;have j3:=Lg.big HX.o;clear ho O;go_wp2_with fail;clear y3;go_loopw [44] (fun i D=>∃ m:Nat,i = .int .i64 (m:Int)∧m≤x.terms.length∧CvSt w D br b7 bg b10 p.vars.length cg #[.string ⟨x.name.toArray⟩,.int .i64 x.group,.int .i64 x.kind,.slice x.tp x.terms.length x.tc,.int .i64 x.bound] (.slice va p.vars.length vc) (.slice vb p.rows.length vd) bp (lowAll p.vars l) (((-1):Int):Rat)∧Jq D bo p.vars.length (fun j=>(((-1) * rowCoef (x.terms.take m) j:Int):Rat)) 80) (fun i _=>x.terms.length - (RowKit.intOf i).toNat)
    case atStart=>exact⟨0,rfl,Nat.zero_le _,d.o,g.o.congr fun j _=>by simp[rowCoef]⟩
    case round=>
     clear d g;obtain⟨m,rfl,j0,hq,a5⟩:=hrel;obtain⟨d,g⟩:=Z2 hq a5;clear hq a5;by_cases d9:m < x.terms.length
     ·have i8:(m:Int) < (x.terms.length:Int):=by omega
      obtain⟨bt,ot,P,a9,ht,c0⟩:=O0 HX.o rfl d9;obtain⟨Q,d1⟩:=c0 _ d.o.cv.g;obtain⟨HT,b3,a4⟩:=Z3 ht (Oo (Int.le_refl _) J.o.2.2.2.2.2 P (List.mem_of_getElem? ht)) (M5 _ _ _ _ ht J.o.2.2.2.2.2);obtain⟨B,a8⟩:∃ B:Nat,P.v=(B:Int):=⟨P.v.toNat,by have:=b3.o.1;omega⟩
      have c1:B < p.vars.length:=by have:=b3.o.2;omega
      have i7:(B:Int) < (p.vars.length:Int):=by omega
      have i6:(0:Int)≤(B:Int):=by omega
      have d7:=Z (show rowCoef (x.terms.take m) B=0 from R2 _ _ fun z hz=>by have:=Rg _ _ _ _ ht J.o.2.2.2.2.2 z hz;omega);rw[a8] at Q;have HJ:=Z a8;have BT:=Ja.new wr #[.int .i64 (B:Int),.int .i64 P.c] 75;obtain⟨a3,d,g,d6⟩:=Z4 BT.2 (d.o.grow BT.1) (g.o.grow BT.1) a9;rw[a9];clear ht c0 a8 a9 BT;go_wp2_with fail;clear Q d1;generalize wr.heap.size=i3 at a3 ⊢;generalize wr.alloc _=W7 at a3 d g ⊢;have Q:=a3.o.c 0 rfl;have d1:=a3.o.c 1 rfl;obtain⟨ts,q,a1⟩:=d.o.t10;have a6:=Z a1;have i0:=q.c0;have i1:=q.c1;have i2:=q.c2;have C:Gr W7 W7.drew:=(Gr.refl _).drew;have f:=Z C;clear q a1;refine Jl [(0,true),(1,true),(2,true),(3,true),(4,true),(5,true),(6,false),(7,false),(8,true),(9,false)] ?_;repeat(refine Jc C (h:=?_))
      refine Je (k:=Md _ P.c (Kd a4.o.2.2.2).1 (Kd a4.o.2.2.2).2) (h:=?_);rintro r1 w8 g1 E;have f:=Z (f.o.trans g1);refine Je (k:=N3 _ _ _ (((-1):Int):Rat) (P.c:Rat) (((-1) * P.c:Int):Rat) 2 2 (RatC.v (a6.o.grow f.o) (Km (show In (-1) by unfold In;decide))) (E.v (Km a4.o.2.2.2)) (Rat.intCast_mul _ _).symm (by decide) (by decide)) (h:=?_);rintro r2 D F M;have f:=Z (f.o.trans F);clear E;have g4:=f.o;repeat(refine Jc g4 (h:=?_))
      obtain⟨d,g⟩:=Z2 (d.o.grow f.o) (g.o.grow f.o);obtain⟨s9,Y,S,c9,R,U,X,rfl⟩:=M.agg;obtain⟨t1,-,b6⟩:=g.o.at c1;obtain⟨f0,f1,f2⟩:=b6 D (Gr.refl _);have f3:=g.o.f (B * 3);have f4:=g.o.f (B * 3+1);have f5:=g.o.f (B * 3+2);have I:=Z (And.intro (d.o.setO (k:=B) ⟨s9,Y,S,c9,R,U,X⟩ g.o.noInt N.o.1 N.o.2.1 N.o.2.2.1 N.o.2.2.2.1 N.o.2.2.2.2.1 N.o.2.2.2.2.2) (show Jq (setRat D bo B ⟨s9,Y,S,c9,R,U,X⟩) bo p.vars.length (fun j=>(((-1) * rowCoef (x.terms.take (m+1)) j:Int):Rat)) 80 from
       g.o.set c1 (t:=⟨s9,Y,S,c9,R,U,X⟩) (by
        show RatV D _ (((-1) * rowCoef (x.terms.take (m+1)) B:Int):Rat) 80;rw[Na HT.o,if_pos HJ.o,d7.o,Int.zero_add];exact M.v (Sz.mono' (Km (Mr (sg:=(-1)) (by decide) a4.o.2.2.2).1) (by decide))) (fun i hi c2=>by
        show(((-1) * rowCoef (x.terms.take m) i:Int):Rat)=(((-1) * rowCoef (x.terms.take (m+1)) i:Int):Rat)
        rw[Na HT.o,if_neg (by rw[HJ.o];omega),Int.add_zero])))
      clear M b6 Q d1 i0 i1 i2;refine Jj rfl rfl (fun K hK=>?_);go_simp;refine⟨fun h=>Bool.noConfusion h,hK _ _ ?_⟩;clear hK K;unfold setRat at I;dsimp only at I;generalize ((D.setCell _ _).setCell _ _).setCell _ _=W9 at I ⊢;refine Jg ?_;clear f0 f1 f2 f3 f4 f5 C g1 F g4;have f6:IntKind.i64.wrap ((m:Int)+1)=(m:Int)+1:=by rw[IntKind.wrap_i64];omega
      go_wp2_with fail;exact⟨⟨m+1,by go_num,by omega,by have h:=I.o.1;rw[d6.o] at h;exact h,I.o.2⟩,by simp[RowKit.intOf];omega⟩
     ·obtain rfl:m=x.terms.length:=by omega
      have g:=Z (show Jq wr bo p.vars.length (fun j=>(((-1) * rowCoef x.terms j:Int):Rat)) 80 from by have:=g.o;rwa [List.take_length] at this);have d4:=Z (g.o.read (by omega));have q0:=d.o.cv.tq.at 0 rfl;have q1:=d.o.cv.tq.at 1 rfl;have b1:=Z (show ∀ j,In ((-1) * rowCoef x.s.terms j) from fun j=>(Mr (sg:=(-1)) (by decide) (J2.coefs J.o j)).1);go_wp2_with fail;clear q0 q1;refine(Y3 wr _ _ _ _ _ (lowAll p.vars l) (fun j=>(-1) * rowCoef x.s.terms j) (Mb _ _) (OwnL.read d.o.cv.ro) d4.o (Mc l HK.o HW.o).1 (Mc l HK.o HW.o).2 b1.o hn).mono ?_;rintro _ w6 ⟨r6,rfl,O,h6⟩;rcases h6 with⟨he,rfl⟩|⟨he,u,rfl,hu⟩
      ·obtain⟨H,GG⟩:=Z2 (show ¬ Lb p.vars x.s l from fun h=>h.1 he) ((d.o.cv.g.trans O).trans (show Gr w6 (w6.alloc (.cells #[.bool false,.slice none 0 0,.slice none 0 0] 68)) from(Gr.refl _).alloc _));clear he O;go_wp2_with fail;generalize w6.alloc _=W8 at GG ⊢;have C:Gr W8 W8.drew:=(Gr.refl _).drew;have GG:=Z (GG.o.trans C);refine Jl [(0,true),(1,true),(2,true),(3,true),(4,true),(5,true),(6,false),(7,false),(8,false),(9,true),(10,true),(11,true)] ?_;repeat(first|(refine Jw (h:=?_))|(refine Jc C (h:=?_)))
       refine Jg ?_;clear C;go_wp2_with fail;go_ret;exact⟨_,rfl,GG.o,Jb.no H.o⟩
      ·obtain⟨s9,Y,S,c9,R,U,X,rfl⟩:=hu.agg;have a2:=box3 w6 (.bool s9) (.slice Y S c9) (.slice R U X) 68;obtain⟨a0,HU,d,HE⟩:=Z4 a2.2 (hu.grow a2.1) (d.o.grow (O.trans a2.1)) he;clear he hu O a2;go_wp2_with fail;generalize w6.heap.size=h9 at a0 ⊢;generalize w6.alloc _=W8 at a0 HU d ⊢;have Q:=a0.o.c0;have d1:=a0.o.c1;have d2:=a0.o.c2;have d3:=d.o.tr.c 4 rfl;obtain⟨ts,q,a1⟩:=d.o.t10;have a6:=Z a1;have i0:=q.c0;have i1:=q.c1;have i2:=q.c2;have C:Gr W8 W8.drew:=(Gr.refl _).drew;have f:=Z C;clear q a1;refine Jl [(0,true),(1,true),(2,true),(3,true),(4,true),(5,true),(6,false),(7,false),(8,false),(9,true),(10,true),(11,true)] ?_;repeat(refine Jc C (h:=?_))
       refine Je (k:=Md _ x.bound (Kd J.o.2.2.2.1).1 (Kd J.o.2.2.2.1).2) (h:=?_);rintro r1 w8 g1 E;have f:=Z (f.o.trans g1);refine Je (k:=N3 _ _ _ (((-1):Int):Rat) (x.bound:Rat) (((-1) * x.bound:Int):Rat) 2 2 (RatC.v (a6.o.grow f.o) (Km (show In (-1) by unfold In;decide))) (E.v (Km J.o.2.2.2.1)) (Rat.intCast_mul _ _).symm (by decide) (by decide)) (h:=?_);rintro r2 D F M;have f:=Z (f.o.trans F);clear E;obtain⟨cs,a7⟩:∃ c,cmpQ (leastS (lowAll p.vars l) fun j=>(((-1) * rowCoef x.s.terms j:Int):Rat)) (((-1) * x.bound:Int):Rat)=c:=⟨_,rfl⟩
       have c3:=(Ps (Mc l HK.o HW.o).1.2.2.1 b1.o (by rw[Mb];exact hn)).1 _ (Nat.le_refl _);refine Je (k:=Ur _ _ _ _ (((-1) * x.bound:Int):Rat) cs 200 2 (RatC.v (HU.o.grow f.o) c3) (M.v (Km (Mr (sg:=(-1)) (by decide) J.o.2.2.2.1).1)) a7 (by decide) (by decide)) (h:=?_);rintro _ j6 g3 rfl;have f:=Z (f.o.trans g3);have c6:=Z (show 0 < cs↔Lb p.vars x.s l from by
        rw[P7 a7];unfold Lb;rw[d5.o];exact⟨fun h=>⟨HE.o,h⟩,fun h=>h.2⟩)
       have g4:=f.o;clear M c3 a7;repeat(refine Jc g4 (h:=?_))
       refine Jg ?_;clear C g1 F g3 g4 Q d1 d2 d3 i0 i1 i2;go_wp2_with fail;go_ret;refine⟨_,rfl,d.o.cv.g.trans f.o,decide (0 < cs),rfl,?_⟩;rw[← c6.o];simp
   ·have e1:(kd == 1)=false:=by simpa using E
    have d5:=Z (show sgnR x.s=1 from by rw[e4.o,if_neg E]);have y0:=d.o.tp.at 0 rfl;clear E;go_wp2_with (at_make;refine Hold.hold ?_);clear y0 y2 e1;generalize w4.heap.size=b10 at d c4 ⊢;generalize w4.alloc _=L at d ⊢;refine Hold.go ?_;refine Pv rfl _ _ 33 rfl (by kernel_rfl) p.vars.length _ rfl rfl rfl (by omega) ?_;intro W6 ho O;have N:=Z (show w.heap.size≤L.heap.size∧b7≠L.heap.size∧bg≠L.heap.size∧bp≠L.heap.size∧br≠L.heap.size∧b10≠L.heap.size from by
     have E:=d.o.cv.tq.lt;have M:=d.o.tp.lt;have h3:=d.o.tr.lt;have h5:=d.o.cv.g.size;have h6:=(World.ownsRow.lt d.o.cv.ro bg rfl).2;have q:=d.o.t10.lt;exact⟨h5,by omega,by omega,by omega,by omega,by omega⟩)
    obtain⟨d,g⟩:=Z2 (d.o.grow O) ho;generalize L.heap.size=bo at g N ⊢;have y3:=d.o.tr.at 3 rfl;have j3:=Lg.big HX.o;clear ho O;go_wp2_with fail;clear y3;go_loopw [44] (fun i D=>∃ m:Nat,i = .int .i64 (m:Int)∧m≤x.terms.length∧CvSt w D br b7 bg b10 p.vars.length cg #[.string ⟨x.name.toArray⟩,.int .i64 x.group,.int .i64 x.kind,.slice x.tp x.terms.length x.tc,.int .i64 x.bound] (.slice va p.vars.length vc) (.slice vb p.rows.length vd) bp (lowAll p.vars l) ((1:Int):Rat)∧Jq D bo p.vars.length (fun j=>((1 * rowCoef (x.terms.take m) j:Int):Rat)) 80) (fun i _=>x.terms.length - (RowKit.intOf i).toNat)
    case atStart=>exact⟨0,rfl,Nat.zero_le _,d.o,g.o.congr fun j _=>by simp[rowCoef]⟩
    case round=>
     clear d g;obtain⟨m,rfl,j0,hq,a5⟩:=hrel;obtain⟨d,g⟩:=Z2 hq a5;clear hq a5;by_cases d9:m < x.terms.length
     ·have i8:(m:Int) < (x.terms.length:Int):=by omega
      obtain⟨bt,ot,P,a9,ht,c0⟩:=O0 HX.o rfl d9;obtain⟨Q,d1⟩:=c0 _ d.o.cv.g;obtain⟨HT,b3,a4⟩:=Z3 ht (Oo (Int.le_refl _) J.o.2.2.2.2.2 P (List.mem_of_getElem? ht)) (M5 _ _ _ _ ht J.o.2.2.2.2.2);obtain⟨B,a8⟩:∃ B:Nat,P.v=(B:Int):=⟨P.v.toNat,by have:=b3.o.1;omega⟩
      have c1:B < p.vars.length:=by have:=b3.o.2;omega
      have i7:(B:Int) < (p.vars.length:Int):=by omega
      have i6:(0:Int)≤(B:Int):=by omega
      have d7:=Z (show rowCoef (x.terms.take m) B=0 from R2 _ _ fun z hz=>by have:=Rg _ _ _ _ ht J.o.2.2.2.2.2 z hz;omega);rw[a8] at Q;have HJ:=Z a8;have BT:=Ja.new wr #[.int .i64 (B:Int),.int .i64 P.c] 75;obtain⟨a3,d,g,d6⟩:=Z4 BT.2 (d.o.grow BT.1) (g.o.grow BT.1) a9;rw[a9];clear ht c0 a8 a9 BT;go_wp2_with fail;clear Q d1;generalize wr.heap.size=i3 at a3 ⊢;generalize wr.alloc _=W7 at a3 d g ⊢;have Q:=a3.o.c 0 rfl;have d1:=a3.o.c 1 rfl;obtain⟨ts,q,a1⟩:=d.o.t10;have a6:=Z a1;have i0:=q.c0;have i1:=q.c1;have i2:=q.c2;have C:Gr W7 W7.drew:=(Gr.refl _).drew;have f:=Z C;clear q a1;refine Jl [(0,true),(1,true),(2,true),(3,true),(4,true),(5,true),(6,false),(7,false),(8,true),(9,false)] ?_;repeat(refine Jc C (h:=?_))
      refine Je (k:=Md _ P.c (Kd a4.o.2.2.2).1 (Kd a4.o.2.2.2).2) (h:=?_);rintro r1 w8 g1 E;have f:=Z (f.o.trans g1);refine Je (k:=N3 _ _ _ ((1:Int):Rat) (P.c:Rat) ((1 * P.c:Int):Rat) 2 2 (RatC.v (a6.o.grow f.o) (Km (show In 1 by unfold In;decide))) (E.v (Km a4.o.2.2.2)) (Rat.intCast_mul _ _).symm (by decide) (by decide)) (h:=?_);rintro r2 D F M;have f:=Z (f.o.trans F);clear E;have g4:=f.o;repeat(refine Jc g4 (h:=?_))
      obtain⟨d,g⟩:=Z2 (d.o.grow f.o) (g.o.grow f.o);obtain⟨s9,Y,S,c9,R,U,X,rfl⟩:=M.agg;obtain⟨t1,-,b6⟩:=g.o.at c1;obtain⟨f0,f1,f2⟩:=b6 D (Gr.refl _);have f3:=g.o.f (B * 3);have f4:=g.o.f (B * 3+1);have f5:=g.o.f (B * 3+2);have I:=Z (And.intro (d.o.setO (k:=B) ⟨s9,Y,S,c9,R,U,X⟩ g.o.noInt N.o.1 N.o.2.1 N.o.2.2.1 N.o.2.2.2.1 N.o.2.2.2.2.1 N.o.2.2.2.2.2) (show Jq (setRat D bo B ⟨s9,Y,S,c9,R,U,X⟩) bo p.vars.length (fun j=>((1 * rowCoef (x.terms.take (m+1)) j:Int):Rat)) 80 from
       g.o.set c1 (t:=⟨s9,Y,S,c9,R,U,X⟩) (by
        show RatV D _ ((1 * rowCoef (x.terms.take (m+1)) B:Int):Rat) 80;rw[Na HT.o,if_pos HJ.o,d7.o,Int.zero_add];exact M.v (Sz.mono' (Km (Mr (sg:=1) (by decide) a4.o.2.2.2).1) (by decide))) (fun i hi c2=>by
        show((1 * rowCoef (x.terms.take m) i:Int):Rat)=((1 * rowCoef (x.terms.take (m+1)) i:Int):Rat)
        rw[Na HT.o,if_neg (by rw[HJ.o];omega),Int.add_zero])))
      clear M b6 Q d1 i0 i1 i2;refine Jj rfl rfl (fun K hK=>?_);go_simp;refine⟨fun h=>Bool.noConfusion h,hK _ _ ?_⟩;clear hK K;unfold setRat at I;dsimp only at I;generalize ((D.setCell _ _).setCell _ _).setCell _ _=W9 at I ⊢;refine Jg ?_;clear f0 f1 f2 f3 f4 f5 C g1 F g4;have f6:IntKind.i64.wrap ((m:Int)+1)=(m:Int)+1:=by rw[IntKind.wrap_i64];omega
      go_wp2_with fail;exact⟨⟨m+1,by go_num,by omega,by have h:=I.o.1;rw[d6.o] at h;exact h,I.o.2⟩,by simp[RowKit.intOf];omega⟩
     ·obtain rfl:m=x.terms.length:=by omega
      have g:=Z (show Jq wr bo p.vars.length (fun j=>((1 * rowCoef x.terms j:Int):Rat)) 80 from by have:=g.o;rwa [List.take_length] at this);have d4:=Z (g.o.read (by omega));have q0:=d.o.cv.tq.at 0 rfl;have q1:=d.o.cv.tq.at 1 rfl;have b1:=Z (show ∀ j,In (1 * rowCoef x.s.terms j) from fun j=>(Mr (sg:=1) (by decide) (J2.coefs J.o j)).1);go_wp2_with fail;clear q0 q1;refine(Y3 wr _ _ _ _ _ (lowAll p.vars l) (fun j=>1 * rowCoef x.s.terms j) (Mb _ _) (OwnL.read d.o.cv.ro) d4.o (Mc l HK.o HW.o).1 (Mc l HK.o HW.o).2 b1.o hn).mono ?_;rintro _ w6 ⟨r6,rfl,O,h6⟩;rcases h6 with⟨he,rfl⟩|⟨he,u,rfl,hu⟩
      ·obtain⟨H,GG⟩:=Z2 (show ¬ Lb p.vars x.s l from fun h=>h.1 he) ((d.o.cv.g.trans O).trans (show Gr w6 (w6.alloc (.cells #[.bool false,.slice none 0 0,.slice none 0 0] 68)) from(Gr.refl _).alloc _));clear he O;go_wp2_with fail;generalize w6.alloc _=W8 at GG ⊢;have C:Gr W8 W8.drew:=(Gr.refl _).drew;have GG:=Z (GG.o.trans C);refine Jl [(0,true),(1,true),(2,true),(3,true),(4,true),(5,true),(6,false),(7,false),(8,false),(9,true),(10,true),(11,true)] ?_;repeat(first|(refine Jw (h:=?_))|(refine Jc C (h:=?_)))
       refine Jg ?_;clear C;go_wp2_with fail;go_ret;exact⟨_,rfl,GG.o,Jb.no H.o⟩
      ·obtain⟨s9,Y,S,c9,R,U,X,rfl⟩:=hu.agg;have a2:=box3 w6 (.bool s9) (.slice Y S c9) (.slice R U X) 68;obtain⟨a0,HU,d,HE⟩:=Z4 a2.2 (hu.grow a2.1) (d.o.grow (O.trans a2.1)) he;clear he hu O a2;go_wp2_with fail;generalize w6.heap.size=h9 at a0 ⊢;generalize w6.alloc _=W8 at a0 HU d ⊢;have Q:=a0.o.c0;have d1:=a0.o.c1;have d2:=a0.o.c2;have d3:=d.o.tr.c 4 rfl;obtain⟨ts,q,a1⟩:=d.o.t10;have a6:=Z a1;have i0:=q.c0;have i1:=q.c1;have i2:=q.c2;have C:Gr W8 W8.drew:=(Gr.refl _).drew;have f:=Z C;clear q a1;refine Jl [(0,true),(1,true),(2,true),(3,true),(4,true),(5,true),(6,false),(7,false),(8,false),(9,true),(10,true),(11,true)] ?_;repeat(refine Jc C (h:=?_))
       refine Je (k:=Md _ x.bound (Kd J.o.2.2.2.1).1 (Kd J.o.2.2.2.1).2) (h:=?_);rintro r1 w8 g1 E;have f:=Z (f.o.trans g1);refine Je (k:=N3 _ _ _ ((1:Int):Rat) (x.bound:Rat) ((1 * x.bound:Int):Rat) 2 2 (RatC.v (a6.o.grow f.o) (Km (show In 1 by unfold In;decide))) (E.v (Km J.o.2.2.2.1)) (Rat.intCast_mul _ _).symm (by decide) (by decide)) (h:=?_);rintro r2 D F M;have f:=Z (f.o.trans F);clear E;obtain⟨cs,a7⟩:∃ c,cmpQ (leastS (lowAll p.vars l) fun j=>((1 * rowCoef x.s.terms j:Int):Rat)) ((1 * x.bound:Int):Rat)=c:=⟨_,rfl⟩
       have c3:=(Ps (Mc l HK.o HW.o).1.2.2.1 b1.o (by rw[Mb];exact hn)).1 _ (Nat.le_refl _);refine Je (k:=Ur _ _ _ _ ((1 * x.bound:Int):Rat) cs 200 2 (RatC.v (HU.o.grow f.o) c3) (M.v (Km (Mr (sg:=1) (by decide) J.o.2.2.2.1).1)) a7 (by decide) (by decide)) (h:=?_);rintro _ j6 g3 rfl;have f:=Z (f.o.trans g3);have c6:=Z (show 0 < cs↔Lb p.vars x.s l from by
        rw[P7 a7];unfold Lb;rw[d5.o];exact⟨fun h=>⟨HE.o,h⟩,fun h=>h.2⟩)
       have g4:=f.o;clear M c3 a7;repeat(refine Jc g4 (h:=?_))
       refine Jg ?_;clear C g1 F g3 g4 Q d1 d2 d3 i0 i1 i2;go_wp2_with fail;go_ret;refine⟨_,rfl,d.o.cv.g.trans f.o,decide (0 < cs),rfl,?_⟩;rw[← c6.o];simp
theorem J2i (w:World)(v u:Value)(p:Prg)(c:CutS)(hp:Js w v p)(U:Lc w u c 4)(m:Kf p c)(a2:c.kind=1)(e9:c.vars.length≤1000)(X:Jo p)(hw:Whole p)(hn:p.vars.length≤10):
  Calls Tryz.prog 206 #[v,u] w (Ret w (P0 p c w.heap.size)):=by
 obtain⟨HK,HW,HP,HF⟩:=Z4 X hw hp m;have hm:=X.2.1;obtain⟨-,-,e4,e5,c5,-,a8⟩:c.kind=1∧c.mult=[]∧0≤c.row∧c.row < (p.rows.length:Int)∧c.vars≠[]∧IncI (-1) c.vars∧∀ v ∈ c.vars,Kb p v:=by
  rcases m with h|h
  ·have:=h.1;omega
  ·exact h
 obtain⟨N,c9⟩:∃ n:Nat,c.row=(n:Int):=⟨c.row.toNat,by omega⟩
 have e6:N < p.rows.length:=by omega
 have f8:(N:Int) < (p.rows.length:Int):=by omega
 obtain⟨d3,d5,a5,a1⟩:=Z4 a8 c5 a2 c9;obtain⟨F,nm,D,pv,nv,cv,rfl,e2,d1,rfl,rfl⟩:=U.parts;have a7:=Z d1;clear U e2 d1 X hw m a8 c5 a2 e4 e5 c9;obtain⟨Y,vc,vb,vd,rfl,hv,hr⟩:=hp;have HR:=Z hr;have B0:=Ja.new w #[.slice Y p.vars.length vc,.slice vb p.rows.length vd] 25;have I:=Ja.new (w.alloc (.cells #[.slice Y p.vars.length vc,.slice vb p.rows.length vd] 25)) #[.int .i64 c.kind,.slice F c.mult.length D,.int .i64 c.row,.slice pv c.vars.length cv] 45;have r:=Ja.new ((w.alloc (.cells #[.slice Y p.vars.length vc,.slice vb p.rows.length vd] 25)).alloc (.cells #[.int .i64 c.kind,.slice F c.mult.length D,.int .i64 c.row,.slice pv c.vars.length cv] 45)) rowZ 42;simp only[World.size_alloc] at I r;unfold rowZ at r;have d:=Z (show _∧Ja _ _ #[.slice Y p.vars.length vc,.slice vb p.rows.length vd]∧Ja _ _ #[.int .i64 c.kind,.slice F c.mult.length D,.int .i64 c.row,.slice pv c.vars.length cv]∧Ja _ _ #[.string ⟨#[]⟩,.int .i64 0,.int .i64 0,.slice none 0 0,.int .i64 0] from⟨B0.1.trans (I.1.trans r.1),B0.2.grow (I.1.trans r.1),I.2.grow r.1,r.2⟩);clear hv hr B0 I r;unfold prgV at HP ⊢;go_enter Tryz.func206,Tryz.ntmps206;go_wp2_with fail;generalize d8:w.heap.size+1+1=b4 at d ⊢;generalize d9:w.heap.size+1=B at d ⊢;generalize e0:w.heap.size=bp at d ⊢;generalize ((w.alloc _).alloc _).alloc _=W at d ⊢;obtain⟨a4,e7⟩:=Z2 (show w.heap.size≤b4 from by omega) (show B≠b4 from by omega);clear d8 d9 e0;obtain⟨b,o,x,rfl,hx,b0,E⟩:=HR.o.at e6;obtain⟨HX,d4⟩:=Z2 hx b0;have c0:=fun w' g=>(E w' (d.o.1.trans g)).1;have C:=fun w' g=>(E w' (d.o.1.trans g)).2.1;have c2:=fun w' g=>(E w' (d.o.1.trans g)).2.2.1;have c3:=fun w' g=>(E w' (d.o.1.trans g)).2.2.2.1;have c4:=fun w' g=>(E w' (d.o.1.trans g)).2.2.2.2;have y0:=d.o.2.1.c 0 rfl;have y1:=d.o.2.1.c 1 rfl;have x2:∀ w',Gr W w'→w'.cell? ⟨B,2,none⟩=some (.int .i64 (N:Int)):=by rw[← a1.o];exact d.o.2.2.1.c 2 rfl
 have x3:=d.o.2.2.1.c 3 rfl;have R:Gr W W.drew:=(Gr.refl _).drew;have j:=Z R;clear hx b0 E;refine Jl [(0,true),(1,true),(2,true),(3,true),(4,true),(5,true),(6,true),(7,true),(8,true),(9,false),(10,true)] ?_;repeat(refine Jc R (h:=?_))
 refine Je (k:=J2j _ _ p x c.vars pv cv (HP.o.grow (d.o.1.trans j.o)) (SlL.grow d4.o (d.o.1.trans j.o)) (HK.o.2.2.2 _ (List.mem_of_getElem? HX.o)) HK.o HW.o hn d3.o (a7.o.grow (d.o.1.trans j.o)) d5.o (by omega)) (h:=?_);rintro r3 q g3 K;have j:=Z (j.o.trans g3);have g4:=j.o;rcases K.cases with⟨rfl,M⟩|⟨rfl,M⟩;rotate_left
 ·have H:=Z (show ∀ rs,¬ Kn p c rs from fun rt h=>by
   rcases h.2 with⟨S,_⟩|⟨_,⟨z,L,U⟩,_⟩
   ·have:=a5.o;omega
   ·have e:c.row.toNat=N:=by have:=a1.o;omega
    rw[e,HX.o] at L;obtain rfl:=Option.some.inj L;exact M U)
  repeat(refine Jc g4 (h:=?_))
  refine Jg ?_;obtain⟨G,f⟩:=Z2 (d.o.1.trans j.o) (d.o.2.2.2.grow j.o);clear K M g3 R g4 c0 C c2 c3 c4 y0 y1 x2 x3;have c0:=f.o.at 0 rfl;have C:=f.o.at 1 rfl;have c2:=f.o.at 2 rfl;have c3:=f.o.at 3 rfl;have c4:=f.o.at 4 rfl;have f0:=Ja.f (f.o) 0;have f1:=Ja.f (f.o) 1;have f2:=Ja.f (f.o) 2;have f3:=Ja.f (f.o) 3;have f4:=Ja.f (f.o) 4;have t:=Z (fill5 (.string ⟨#[]⟩) (.int .i64 0) (.int .i64 0) (.slice none 0 0) (.int .i64 0) (f.o) (G.o) a4.o);go_wp2_with fail;try rw[Exit.noGoto_ret]
  generalize ((((q.setCell _ _).setCell _ _).setCell _ _).setCell _ _).setCell _ _=W5 at t ⊢;clear c0 C c2 c3 c4 f0 f1 f2 f3 f4;have z0:=t.o.2.1.at 0 rfl;have z1:=t.o.2.1.at 1 rfl;have z2:=t.o.2.1.at 2 rfl;have z3:=t.o.2.1.at 3 rfl;have z4:=t.o.2.1.at 4 rfl;refine bodyPost_ret (by simp[results,Tryz.results206,go_sem,z0,z1,z2,z3,z4];rfl) rfl ?_;exact⟨_,rfl,t.o.1,.inr ⟨H.o,13,by first|decide|exact HEE.o,rfl⟩⟩
 have HD:=Z (show Kn p c (coverRow c.vars) from⟨HF.o,.inr ⟨a5.o,⟨x.s,by rw[show c.row.toNat=N from by have:=a1.o;omega];exact HX.o,M⟩,rfl⟩⟩);repeat(refine Jc g4 (h:=?_))
 refine Jg ?_;obtain⟨G,P,f⟩:=Z3 (d.o.1.trans j.o) (d.o.2.2.1.grow j.o) (d.o.2.2.2.grow j.o);clear K M g3 R g4 c0 C c2 c3 c4 y0 y1 x2 x3 d j;have x3:=P.o.at 3 rfl;have f5:IntKind.i64.wrap ((c.vars.length:Int) - 1)=(c.vars.length:Int) - 1:=by rw[IntKind.wrap_i64];omega
 have J:=Ja.new q #[.string ⟨cutName.toArray⟩,.int .i64 0,.int .i64 0,.slice none 0 0,.int .i64 ((c.vars.length:Int) - 1)] 42;have y:=Z (show L8 w _ B b4 q.heap.size #[.int .i64 c.kind,.slice F c.mult.length D,.int .i64 c.row,.slice pv c.vars.length cv] ((c.vars.length:Int) - 1) (.slice none 0 0) ((c.vars.take 0).map fun v=>(⟨v,1⟩:Ji)) from
  ⟨G.o.trans J.1,P.o.grow J.1,f.o.grow J.1,J.2,Ju.nil _ _,fun b h=>by cases h⟩)
 have O:=Z (show w.heap.size≤q.heap.size∧B≠q.heap.size∧b4≠q.heap.size from⟨G.o.size,by have:=P.o.lt;omega,by have:=f.o.lt;omega⟩);have d2:=y.o.tc.at 3 rfl;unfold cutName at y d2;clear J G P f;go_wp2_with fail;clear x3 d2;generalize q.heap.size=Q at y O ⊢;generalize q.alloc _=W4 at y ⊢;go_loopw [29] (fun i w9=>∃ (k:Nat) (tv:Value),i = .int .i64 (k:Int)∧k≤c.vars.length∧L8 w w9 B b4 Q #[.int .i64 c.kind,.slice F c.mult.length D,.int .i64 c.row,.slice pv c.vars.length cv] ((c.vars.length:Int) - 1) tv ((c.vars.take k).map fun v=>(⟨v,1⟩:Ji))) (fun i _=>c.vars.length - (RowKit.intOf i).toNat)
 case atStart=>exact⟨0,_,rfl,Nat.zero_le _,y.o⟩
 case round=>
  clear y;obtain⟨k,tv,rfl,X,d0⟩:=hrel;have a:=Z d0;clear d0;by_cases e1:k < c.vars.length
  ·have f6:(k:Int) < (c.vars.length:Int):=by omega
   have a2:IntKind.i64.wrap ((k:Int)+1)=(k:Int)+1:=by rw[IntKind.wrap_i64];omega
   obtain⟨b2,o2,z,rfl,L,a9⟩:=Lm a7.o rfl e1;have d6:=Z (show(c.vars.take (k+1)).map (fun v=>(⟨v,1⟩:Ji))=((c.vars.take k).map fun v=>(⟨v,1⟩:Ji)) ++ [⟨z,1⟩] from by rw[List.take_add_one,L];simp);have z0:=a9 wr a.o.g;have c6:=a.o.t6.at 3 rfl;have BS:=SlL.new (enc:=encTerm) (sz:=2) wr 75 Mm [⟨z,1⟩] #[.int .i64 z,.int .i64 1] 1 rfl rfl (by decide);obtain⟨a,a0⟩:=Z2 (a.o.grow BS.1) BS.2;clear L a9 BS;go_wp2_with (at_builtin;refine Hold.hold ?_);clear z0 c6;generalize wr.heap.size=bs at a0 ⊢;generalize wr.alloc _=w6 at a a0 ⊢;refine Hold.go ?_;refine Vo rfl _ _ rfl w.heap.size tv _ ((c.vars.take k).map fun v=>(⟨v,1⟩:Ji)) ⟨z,1⟩ rfl a.o.tw rfl a0.o (by simp;omega) a.o.g.size ?_;intro g2 w7 S h2 K h4;obtain⟨⟨q1,q2⟩,q3⟩:=a.o.putT O.o.1 O.o.2 S h2 h4;obtain⟨pt,ct,c7⟩:=Li S;obtain⟨ln,b1⟩:∃ n,(((c.vars.take k).map fun v=>(⟨v,1⟩:Ji)) ++ ([⟨z,1⟩]:List Ji)).length=n:=⟨_,rfl⟩
   rw[b1] at c7;subst c7;obtain⟨g1,e8,c8⟩:=Li a.o.tw;obtain⟨f9,b3⟩:∃ n,((c.vars.take k).map fun v=>(⟨v,1⟩:Ji)).length=n:=⟨_,rfl⟩
   rw[b3] at c8;subst c8;have a6:=Z q3;clear S h2 K h4 q3 b1 b3;go_wp2_with fail;clear q1 q2;generalize w7.setCell _ _=W7 at a6 ⊢;refine⟨⟨k+1,_,by go_num,by omega,by rw[d6.o];exact a6.o⟩,by simp[RowKit.intOf];omega⟩
  ·obtain rfl:k=c.vars.length:=by omega
   obtain⟨ts,a3⟩:∃ ts,(c.vars.map fun v=>(⟨v,1⟩:Ji))=ts:=⟨_,rfl⟩
   obtain⟨d7,a⟩:=Z2 a3 (show L8 w wr B b4 Q #[.int .i64 c.kind,.slice F c.mult.length D,.int .i64 c.row,.slice pv c.vars.length cv] ((c.vars.length:Int) - 1) tv ts from by have:=a.o;rwa [List.take_length,a3] at this);clear a3;obtain⟨pt,ct,rfl⟩:=Li a.o.tw;have y0:=a.o.t6.at 0 rfl;have y1:=a.o.t6.at 1 rfl;have y2:=a.o.t6.at 2 rfl;have y3:=a.o.t6.at 3 rfl;have y4:=a.o.t6.at 4 rfl;have c0:=a.o.t4.at 0 rfl;have C:=a.o.t4.at 1 rfl;have c2:=a.o.t4.at 2 rfl;have c3:=a.o.t4.at 3 rfl;have c4:=a.o.t4.at 4 rfl;have f0:=Ja.f a.o.t4 0;have f1:=Ja.f a.o.t4 1;have f2:=Ja.f a.o.t4 2;have f3:=Ja.f a.o.t4 3;have f4:=Ja.f a.o.t4 4;have e3:¬ b4=Q:=O.o.2.2;have f7:¬ Q=b4:=fun e=>e3 e.symm;have m:=fill5 (.string ⟨cutName.toArray⟩) (.int .i64 0) (.int .i64 0) (.slice pt ts.length ct) (.int .i64 ((c.vars.length:Int) - 1)) a.o.t4 a.o.g a4.o;have l:=Z (show _∧_∧Ju _ w.heap.size _ _ from⟨m.1,m.2.1,a.o.tw.same m.2.2 (by simp[World.setCell]) (L4 a.o.tw fun g hg=>(a.o.ne g hg).2.1) rfl rfl rfl⟩);clear m;go_wp2_with fail;clear c0 C c2 c3 c4 f0 f1 f2 f3 f4 y0 y1 y2 y3 y4;try rw[Exit.noGoto_ret]
   generalize ((((wr.setCell _ _).setCell _ _).setCell _ _).setCell _ _).setCell _ _=W6 at l ⊢;have z0:=l.o.2.1.at 0 rfl;have z1:=l.o.2.1.at 1 rfl;have z2:=l.o.2.1.at 2 rfl;have z3:=l.o.2.1.at 3 rfl;have z4:=l.o.2.1.at 4 rfl;refine bodyPost_ret (by simp[results,Tryz.results206,go_sem,z0,z1,z2,z3,z4];rfl) rfl ?_;exact⟨_,rfl,l.o.1,.inl ⟨coverRow c.vars,⟨cutName,0,0,pt,ct,ts,(c.vars.length:Int) - 1⟩,HD.o,rfl,by unfold coverRow;rw[d7.o];rfl,l.o.2.2⟩⟩
theorem V9 {x:Rat}{L:Nat}(h:Sz L x):(ceilQ x).natAbs < BB ^ (L+1):=Kt (P5 h)
theorem Y9 {z:Int}(h:In z):z.natAbs < BB ^ 2:=by
 have:=Ll h;have e:BB ^ 2=18446744073709551616:=by decide
 rw[e];omega
theorem Zm {a b:Int}{K M:Nat}(c:a.natAbs < BB ^ K)(d:b.natAbs < BB ^ M):(a * b).natAbs < BB ^ (K+M):=by
 rw[Int.natAbs_mul,Nat.pow_add];exact Nat.mul_lt_mul'' c d
theorem Zh {vs:List VarM}{u:Nat→Int}{K:Nat}(a:∀ v ∈ vs,Ky v):∀ k,(∀ j,j < k→(u j).natAbs < BB ^ K)→(moreZ vs u k).natAbs≤k * BB ^ (K+2)
 | 0,_=>by simp[moreZ]
 | k+1,h=>by
  have f:=Zh a k fun j d=>h j (by omega);show(moreZ vs u k+_:Int).natAbs≤_;rw[Nat.succ_mul]
  cases hx:vs[k]? with
  | none=>simp only[Int.add_zero];omega
  | some v=>
   have b:=Zm (h k (by omega)) (Y9 (a v (List.mem_of_getElem? hx)).1);have c:=Int.natAbs_add_le (moreZ vs u k) (u k * v.lo);simp only[];omega
theorem Zi {vs:List VarM}{u:Nat→Int}{k:Nat}(c:∀ v ∈ vs,Ky v)(h:∀ j,j < k→(u j).natAbs < BB ^ 81)(b:k≤10):Sz 84 ((moreZ vs u k:Int):Rat):=by
 refine Oz (Kj ?_) (by decide);have d:=Zh c k h;have f:=Nat.mul_le_mul_right (BB ^ (81+2)) b;have e:BB ^ 84=BB ^ (81+2) * BB:=by rw[← Nat.pow_succ]
 have a:0 < BB ^ (81+2):=Nat.pow_pos (by decide);have g:10 * BB ^ (81+2) < BB ^ (81+2) * BB:=by
  rw[Nat.mul_comm];exact Nat.mul_lt_mul_of_pos_left (by decide) a
 rw[e];omega
structure RpSt (w W:World)(bp b4 bo b7 b8 b9:Nat)(u0 u1:Value)(n:Nat)(A:Nat→Rat)(s:Rat)(tv:Value)(ts:List Ji)(mz:Rat):Prop where
 g:Gr w W
 tp:Ja W bp #[u0,u1]
 t4:Ja W b4 rowZ
 ro:Jq W bo n A 80
 t7:J9 W b7 s
 t8:Ja W b8 (rowT tv)
 tw:Ju W w.heap.size tv ts
 t9:J9 W b9 mz
 ne:∀ b,tv.ownBlock=some b→b≠bp∧b≠b4∧b≠bo∧b≠b7∧b≠b8∧b≠b9
structure RpNe (w:World)(bp b4 bo b7 b8 b9:Nat):Prop where
 n4:w.heap.size≤b4
 n7:w.heap.size≤b7
 n8:w.heap.size≤b8
 n9:w.heap.size≤b9
 p:bp≠b7∧bp≠b8∧bp≠b9∧bp≠b4
 x4:b4≠bo∧b4≠b7∧b4≠b8∧b4≠b9
 xo:bo≠b7∧bo≠b8∧bo≠b9
 x7:b7≠b8∧b7≠b9
 x8:b8≠b9
section
variable {w W:World}{bp b4 bo b7 b8 b9:Nat}{u0 u1:Value}{n:Nat}{A:Nat→Rat}{s:Rat}{tv:Value}{ts:List Ji}{mz:Rat}
theorem RpSt.grow {a:World}(h:RpSt w W bp b4 bo b7 b8 b9 u0 u1 n A s tv ts mz)(g:Gr W a):RpSt w a bp b4 bo b7 b8 b9 u0 u1 n A s tv ts mz:=
 ⟨h.g.trans g,h.tp.grow g,h.t4.grow g,h.ro.grow g,h.t7.grow g,h.t8.grow g,h.tw.grow g,h.t9.grow g,h.ne⟩
theorem RpSt.putB {s':Rat}{t:RatM}(h:RpSt w W bp b4 bo b7 b8 b9 u0 u1 n A s tv ts mz)(a:RpNe w bp b4 bo b7 b8 b9)(d:RatC W t.v s'):
  RpSt w (set3 W b7 (.bool t.n) (.slice t.p t.k t.c) (.slice t.q t.m t.e)) bp b4 bo b7 b8 b9 u0 u1 n A s' tv ts mz:=by
 have b:=upd3 W b7 (.bool t.n) (.slice t.p t.k t.c) (.slice t.q t.m t.e);exact⟨Ks h.g a.n7 _ _ _,h.tp.upd b a.p.1,h.t4.upd b a.x4.2.1,h.ro.upd h.t7.noInt b a.xo.1,h.t7.put d,h.t8.upd b a.x7.1.symm,
  h.tw.same b (by simp[set3,World.setCell]) (L4 h.tw fun g c=>(h.ne g c).2.2.2.1) rfl rfl rfl,h.t9.upd h.t7.noInt b a.x7.2.symm,h.ne⟩
theorem RpSt.putM {c:Rat}{t:RatM}(h:RpSt w W bp b4 bo b7 b8 b9 u0 u1 n A s tv ts mz)(a:RpNe w bp b4 bo b7 b8 b9)(f:RatC W t.v c):
  RpSt w (set3 W b9 (.bool t.n) (.slice t.p t.k t.c) (.slice t.q t.m t.e)) bp b4 bo b7 b8 b9 u0 u1 n A s tv ts c:=by
 have b:=upd3 W b9 (.bool t.n) (.slice t.p t.k t.c) (.slice t.q t.m t.e);exact⟨Ks h.g a.n9 _ _ _,h.tp.upd b a.p.2.2.1,h.t4.upd b a.x4.2.2.2,h.ro.upd h.t9.noInt b a.xo.2.2,h.t7.upd h.t9.noInt b a.x7.2,h.t8.upd b a.x8,
  h.tw.same b (by simp[set3,World.setCell]) (L4 h.tw fun g d=>(h.ne g d).2.2.2.2.2) rfl rfl rfl,h.t9.put f,h.ne⟩
theorem RpSt.setX {b:Nat}{x y z:Value}(h:RpSt w W bp b4 bo b7 b8 b9 u0 u1 n A s tv ts mz)(d:Kp W b)(g:w.heap.size≤b)(c:bp≠b∧b4≠b∧bo≠b∧b7≠b∧b8≠b∧b9≠b)(f:tv.ownBlock≠some b):
  RpSt w (set3 W b x y z) bp b4 bo b7 b8 b9 u0 u1 n A s tv ts mz:=by
 have a:=upd3 W b x y z;exact⟨Ks h.g g _ _ _,h.tp.upd a c.1,h.t4.upd a c.2.1,h.ro.upd d a c.2.2.1,h.t7.upd d a c.2.2.2.1,h.t8.upd a c.2.2.2.2.1,
  h.tw.same a (by simp[set3,World.setCell]) f rfl rfl rfl,h.t9.upd d a c.2.2.2.2.2,h.ne⟩
theorem RpSt.apart (h:RpSt w W bp b4 bo b7 b8 b9 u0 u1 n A s tv ts mz){b:Nat}(a:W.heap.size≤b):(bp≠b∧b4≠b∧bo≠b∧b7≠b∧b8≠b∧b9≠b)∧tv.ownBlock≠some b∧w.heap.size≤b:=by
 have c:=h.tp.lt;have d:=h.t4.lt;have f:=h.ro.lt;have g:=h.t7.lt;have i:=h.t8.lt;have j:=h.t9.lt;have k:=h.g.size;refine⟨⟨by omega,by omega,by omega,by omega,by omega,by omega⟩,fun e=>?_,by omega⟩;have:=(World.ownsRow.lt h.tw.1 b e).2;omega
theorem J9.dk {w w':World}{b:Nat}{s:Rat}(h:J9 w b s)(d:Dk w w')(f:w'.heap[b]?=w.heap[b]?):J9 w' b s:=by
 obtain⟨t,⟨ty,a⟩,c⟩:=h;exact⟨t,⟨ty,by rw[f];exact a⟩,Pn c d⟩
theorem RpSt.putT {c:World}{d:Value}{t:Ji}(h:RpSt w W bp b4 bo b7 b8 b9 u0 u1 n A s tv ts mz)(i:RpNe w bp b4 bo b7 b8 b9)(r:Ju c w.heap.size d (ts ++ [t]))(a:W.grownBy c tv.ownBlock)(o:Dk W c)
  (k:d.ownBlock=tv.ownBlock∨d.ownBlock=some W.heap.size):
  (c.cell? ⟨b8,3,none⟩=some tv∧c.frozen? ⟨b8,3,none⟩=false)∧RpSt w (c.setCell ⟨b8,3,none⟩ d) bp b4 bo b7 b8 b9 u0 u1 n A s d (ts ++ [t]) mz:=by
 have j:∀ b,b < W.heap.size→(∀ g,tv.ownBlock=some g→g≠b)→c.heap[b]?=W.heap[b]?:=fun b v m=>a.block b v (fun e=>m b e.symm rfl);have B:=j b7 h.t7.lt fun g a=>(h.ne g a).2.2.2.1;have D:=j b9 h.t9.lt fun g a=>(h.ne g a).2.2.2.2.2;have E:=j bo h.ro.lt fun g a=>(h.ne g a).2.2.1;have C:=j b8 h.t8.lt fun g a=>(h.ne g a).2.2.2.2.1;have l:=K3 h.t8 C;have u:Gr w c:=OwnL.gr h.tw.1 h.g a;have f:=J5 c b8 3 d;obtain⟨N,F,y⟩:=Li h.tw;have x:NoU c b8:=NoU.of l (J0U tv fun z e=>by rw[y] at e;cases e);have p:=Dk.upd x f;have G:=a.size;have m:∀ g,d.ownBlock=some g→g≠bp∧g≠b4∧g≠bo∧g≠b7∧g≠b8∧g≠b9:=fun g q=>by
  rcases k with k|k
  ·exact h.ne g (k ▸ q)
  ·rw[k] at q;obtain rfl:=Option.some.inj q;have H:=h.tp.lt;have I:=h.t4.lt;have J:=h.ro.lt;have K:=h.t7.lt;have L:=h.t8.lt;have M:=h.t9.lt;exact⟨by omega,by omega,by omega,by omega,by omega,by omega⟩
 refine⟨⟨l.at 3 rfl,l.f 3⟩,⟨Gr.set u (by have:=i.n8;omega) _,?_,?_,?_,?_,?_,?_,?_,m⟩⟩
 ·exact(K3 h.tp (j bp h.tp.lt fun g a=>(h.ne g a).1)).upd f i.p.2.1
 ·exact(K3 h.t4 (j b4 h.t4.lt fun g a=>(h.ne g a).2.1)).upd f i.x4.2.2.1
 ·exact Ru (Ru h.ro o E) p (f bo i.xo.2.1)
 ·exact(h.t7.dk o B).dk p (f b7 i.x7.1)
 ·have:=l.set 3 d;simpa[rowT] using this
 ·exact r.same f (by simp[World.setCell]) (L4 r fun g a=>(m g a).2.2.2.2.1) rfl rfl rfl
 ·exact(h.t9.dk o D).dk p (f b9 i.x8.symm)
theorem J62 {b:Option Addr}{a:Nat}(h:RpSt w W bp b4 bo b7 b8 b9 u0 u1 n A s (.slice b ts.length a) ts mz)(d:RpNe w bp b4 bo b7 b8 b9)(z:Int):
  Gr w (W.setCell ⟨b8,4,none⟩ (.int .i64 z))∧Ja (W.setCell ⟨b8,4,none⟩ (.int .i64 z)) b8 #[.string ⟨cutName.toArray⟩,.int .i64 0,.int .i64 1,.slice b ts.length a,.int .i64 z]∧Ja (W.setCell ⟨b8,4,none⟩ (.int .i64 z)) b4 rowZ∧
  Ju (W.setCell ⟨b8,4,none⟩ (.int .i64 z)) w.heap.size (.slice b ts.length a) ts∧∀ g,(Value.slice b ts.length a).ownBlock=some g→g≠b4:=by
 have f:=J5 W b8 4 (.int .i64 z);refine⟨Gr.set h.g (by have:=d.n8;omega) _,?_,h.t4.upd f d.x4.2.2.1,h.tw.same f (by simp[World.setCell]) (L4 h.tw fun g c=>(h.ne g c).2.2.2.2.1) rfl rfl rfl,fun g c=>(h.ne g c).2.1⟩;have:=h.t8.set 4 (.int .i64 z);simpa[rowT] using this
end
def Vx (w W:World)(bp b4 bo b7 b8 b9:Nat)(u0 u1:Value)(p:Prg)(y:List Rat)(k:Nat)(v:Value):Prop:=
 ∃ (sm:Bool) (tv:Value) (ts:List Ji),v = .bool sm∧(sm=true↔∀ j,j < k→In (ceilQ (combA p y j)))∧(sm=true→ts=cutTerms (combA p y) k)∧ts.length≤k∧
  RpSt w W bp b4 bo b7 b8 b9 u0 u1 p.vars.length (combA p y) (combB p y - sumQ (loT p.vars (combA p y)) k) tv ts ((moreZ p.vars (fun j=>ceilQ (combA p y j)) k:Int):Rat)
theorem V1 {P:Nat→Prop}{k:Nat}:(∀ j,j < k+1→P j)↔(∀ j,j < k→P j)∧P k:=
 ⟨fun h=>⟨fun j b=>h j (by omega),h k (by omega)⟩,fun h j b=>by
  rcases Nat.lt_or_ge j k with a|a
  ·exact h.1 j a
  ·obtain rfl:j=k:=by omega
   exact h.2⟩
theorem J23 {a b:Bool}{P Q:Prop}(h:a=true↔P)(k:b=true↔Q):(a && b)=true↔P∧Q:=by
 rw[Bool.and_eq_true,h,k]
theorem J2o (w:World)(v u:Value)(p:Prg)(c:CutS)(hp:Js w v p)(hc:Lc w u c 4)(o4:Calm p c.mult)(hk:Jo p)(hw:Whole p)(hn:p.vars.length≤10):
  Calls Tryz.prog 205 #[v,u] w (Ret w (Qx p c.mult w.heap.size)):=by
 obtain⟨HC,HK,HW,HP⟩:=Z4 o4 hk hw hp;have hm:=hk.2.1;obtain⟨pm,nm,cm,pv,nv,cv,rfl,o8,a1,rfl,rfl⟩:=hc.parts;have HY:=Z o8;clear hc o4 hk hw o8 a1;obtain⟨va,vc,vb,vd,rfl,hv,hr⟩:=hp;have HV:=Z hv;have B0:=Ja.new w #[.slice va p.vars.length vc,.slice vb p.rows.length vd] 25;have B1:=Ja.new (w.alloc (.cells #[.slice va p.vars.length vc,.slice vb p.rows.length vd] 25)) #[.int .i64 c.kind,.slice pm c.mult.length cm,.int .i64 c.row,.slice pv c.vars.length cv] 45;have B2:=Ja.new ((w.alloc (.cells #[.slice va p.vars.length vc,.slice vb p.rows.length vd] 25)).alloc (.cells #[.int .i64 c.kind,.slice pm c.mult.length cm,.int .i64 c.row,.slice pv c.vars.length cv] 45)) rowZ 42;simp only[World.size_alloc] at B1 B2;unfold rowZ at B2;have HB:=Z (show _∧Ja _ _ #[.slice va p.vars.length vc,.slice vb p.rows.length vd]∧Ja _ _ #[.int .i64 c.kind,.slice pm c.mult.length cm,.int .i64 c.row,.slice pv c.vars.length cv]∧Ja _ _ #[.string ⟨#[]⟩,.int .i64 0,.int .i64 0,.slice none 0 0,.int .i64 0] from⟨B0.1.trans (B1.1.trans B2.1),B0.2.grow (B1.1.trans B2.1),B1.2.grow B2.1,B2.2⟩);clear hv hr B0 B1 B2;unfold prgV at HP ⊢;go_enter Tryz.func205,Tryz.ntmps205;go_wp2_with fail;generalize r2:w.heap.size+1+1=b4 at HB ⊢;generalize s0:w.heap.size+1=bc at HB ⊢;generalize s2:w.heap.size=bp at HB ⊢;generalize ((w.alloc _).alloc _).alloc _=W at HB ⊢;obtain⟨G,TP,TC,r,b3,q7⟩:=Z6 HB.o.1 HB.o.2.1 HB.o.2.2.1 HB.o.2.2.2 (show w.heap.size≤b4 from by omega) (show bp≠b4 from by omega);clear HB r2 s0 s2;refine(Y4 W _ p pm cm c.mult 4 (HP.o.grow G.o) (HY.o.grow G.o) (by decide) (by omega)).mono ?_;rintro _ w1 ⟨r1,rfl,g1,h1⟩;obtain⟨G,TP,TC,r⟩:=Z4 (G.o.trans g1) (TP.o.grow g1) (TC.o.grow g1) (r.o.grow g1);rcases h1.cases with⟨rfl,k1⟩|⟨rfl,k1⟩;rotate_left
 ·have H:=Z (show ¬ Mz p c.mult from fun h=>k1 h.1);clear h1 k1 g1;have c0:=r.o.at 0 rfl;have c1:=r.o.at 1 rfl;have c2:=r.o.at 2 rfl;have c3:=r.o.at 3 rfl;have c4:=r.o.at 4 rfl;have M:=Ja.f (r.o) 0;have N:=Ja.f (r.o) 1;have O:=Ja.f (r.o) 2;have P:=Ja.f (r.o) 3;have Q:=Ja.f (r.o) 4;have l:=Z (fill5 (.string ⟨#[]⟩) (.int .i64 0) (.int .i64 0) (.slice none 0 0) (.int .i64 0) (r.o) (G.o) b3.o);go_wp2_with fail;try rw[Exit.noGoto_ret]
  generalize ((((w1.setCell _ _).setCell _ _).setCell _ _).setCell _ _).setCell _ _=W5 at l ⊢;clear c0 c1 c2 c3 c4 M N O P Q;have z0:=l.o.2.1.at 0 rfl;have z1:=l.o.2.1.at 1 rfl;have z2:=l.o.2.1.at 2 rfl;have z3:=l.o.2.1.at 3 rfl;have z4:=l.o.2.1.at 4 rfl;refine bodyPost_ret (by simp[results,Tryz.results205,go_sem,z0,z1,z2,z3,z4];rfl) rfl ?_;exact⟨_,rfl,l.o.1,.inr ⟨H.o,13,by first|decide|exact HEE.o,rfl⟩⟩
 have H1:=Z k1;clear h1 k1 g1;have y0:=TP.o.at 0 rfl;have y1:=TP.o.at 1 rfl;have x1:=TC.o.at 1 rfl;go_wp2_with fail;clear y0 y1 x1;refine(Y1 w1 _ p pm cm c.mult (HP.o.grow G.o) (HY.o.grow G.o) HC.o HK.o).mono ?_;rintro _ w3 ⟨r3,rfl,g3,bo,u,rfl,s1,ho,hu⟩;have HN:=Z (show w.heap.size≤bo∧bp≠bo∧b4≠bo from by
  have h1:=G.o.size;have h2:=TP.o.lt;have h3:=r.o.lt;exact⟨by omega,by omega,by omega⟩)
 obtain⟨u0,rfl,hu⟩:=N5 hu;have B7:=box3 w3 (.bool u0.n) (.slice u0.p u0.k u0.c) (.slice u0.q u0.m u0.e) 68;have F:=Z (show Gr w (w3.alloc (.cells #[.bool u0.n,.slice u0.p u0.k u0.c,.slice u0.q u0.m u0.e] 68))∧Ja _ bp _∧Ja _ b4 _∧Jq _ bo p.vars.length (combA p c.mult) 80∧J9 (w3.alloc (.cells #[.bool u0.n,.slice u0.p u0.k u0.c,.slice u0.q u0.m u0.e] 68)) w3.heap.size (combB p c.mult) from
  ⟨(G.o.trans g3).trans B7.1,(TP.o.grow g3).grow B7.1,(r.o.grow g3).grow B7.1,ho.grow B7.1,u0,B7.2,hu.grow B7.1⟩)
 have j4:=Z (show w3.heap.size≠bo∧bp≠w3.heap.size∧b4≠w3.heap.size∧w.heap.size≤w3.heap.size from by
  have h1:=ho.lt;have h2:=(TP.o.grow g3).lt;have h3:=(r.o.grow g3).lt;have h4:=(G.o.trans g3).size;exact⟨by omega,by omega,by omega,h4⟩)
 clear hu ho s1 g3 B7 TP r TC G;unfold RatM.v;go_wp2_with fail;generalize w3.heap.size=b7 at F j4 ⊢;generalize w3.alloc _=W3 at F ⊢;refine(Md W3 0 (by decide) (by decide)).mono ?_;rintro _ w5 ⟨r5,rfl,D,h5⟩;obtain⟨s8,p8,k8,c8,e8,m8,n8,rfl⟩:=h5.agg;have B8:=Ja.new w5 (rowT (.slice none 0 0)) 42;have R:=box3 (w5.alloc (.cells (rowT (.slice none 0 0)) 42)) (.bool s8) (.slice p8 k8 c8) (.slice e8 m8 n8) 68;simp only[World.size_alloc] at R;have a9:=Z (show Vx w _ bp b4 bo b7 w5.heap.size (w5.heap.size+1) (.slice va p.vars.length vc) (.slice vb p.rows.length vd) p c.mult 0 (.bool true) from
  ⟨true,.slice none 0 0,[],rfl,⟨fun _ j hj=>by omega,fun _=>rfl⟩,fun _=>rfl,Nat.le_refl _,
   F.o.1.trans (D.trans (B8.1.trans R.1)),F.o.2.1.grow (D.trans (B8.1.trans R.1)),F.o.2.2.1.grow (D.trans (B8.1.trans R.1)),F.o.2.2.2.1.grow (D.trans (B8.1.trans R.1)),by
    rw[show combB p c.mult - sumQ (loT p.vars (combA p c.mult)) 0=combB p c.mult from by show combB p c.mult - 0=_;grind];exact F.o.2.2.2.2.grow (D.trans (B8.1.trans R.1)),B8.2.grow R.1,Ju.nil _ _,⟨⟨s8,p8,k8,c8,e8,m8,n8⟩,R.2,by have:=h5.grow (B8.1.trans R.1);exact this⟩,fun b h=>by cases h⟩)
 have a6:=Z (show RpNe w bp b4 bo b7 w5.heap.size (w5.heap.size+1) from by
  have l1:=(F.o.2.1.grow D).lt;have l2:=(F.o.2.2.1.grow D).lt;have l3:=(F.o.2.2.2.1.grow D).lt;have l4:=(F.o.2.2.2.2.grow D).lt;have l5:=(F.o.1.trans D).size;have n1:=HN.o;have n2:=j4.o;have n3:=q7.o;exact⟨b3.o,n2.2.2.2,l5,by omega,⟨n2.2.1,by omega,by omega,n3⟩,⟨n1.2.2,n2.2.2.1,by omega,by omega⟩,⟨n2.1.symm,by omega,by omega⟩,⟨by omega,by omega⟩,by omega⟩)
 have y0:=(F.o.2.1.grow (D.trans (B8.1.trans R.1))).at 0 rfl;unfold rowT cutName at a9 y0;clear B8 R F j4 h5 D;go_wp2_with fail;clear y0;generalize w5.heap.size+1=b9 at a9 a6 ⊢;generalize w5.heap.size=b8 at a9 a6 ⊢;generalize (w5.alloc _).alloc _=W4 at a9 ⊢;go_loopw [10,37] (fun v i w9=>∃ k:Nat,i = .int .i64 (k:Int)∧k≤p.vars.length∧Vx w w9 bp b4 bo b7 b8 b9 (.slice va p.vars.length vc) (.slice vb p.rows.length vd) p c.mult k v) (fun _ i _=>p.vars.length - (RowKit.intOf i).toNat)
 case atStart=>exact⟨0,rfl,Nat.zero_le _,a9.o⟩
 case round=>
  clear a9;obtain⟨k,rfl,hk,sm,tv,ts,rfl,p2,q0,U,d7⟩:=hrel;obtain⟨f9,i4,i3,a⟩:=Z4 p2 q0 U d7;clear p2 q0 U d7;by_cases i8:k < p.vars.length
  ·have t6:(k:Int) < (p.vars.length:Int):=by omega
   have t5:IntKind.i64.wrap ((k:Int)+1)=(k:Int)+1:=by rw[IntKind.wrap_i64];omega
   obtain⟨b,o,x,rfl,hx,o5⟩:=K5 HV.o rfl i8;obtain⟨HX,d3⟩:=Z2 hx (HK.o.2.2.1 x (List.mem_of_getElem? hx));obtain⟨c0,c1,c2,c3,c4⟩:=o5 _ a.o.g;rw[(HW.o x (List.mem_of_getElem? hx)).1] at c3;have i9:=Ja.new wr #[.int .i64 x.lo,.int .i64 x.up,.bool x.op,.bool true,.int .i64 x.cost] 62;obtain⟨a,C⟩:=Z2 (a.o.grow i9.1) i9.2;obtain⟨ta,a1,a0⟩:=a.o.ro.at i8;obtain⟨E,J,L⟩:=a0 _ (Gr.refl _);have a2:=Z a1;clear hx o5 i9 a1 a0;go_wp2_with fail;clear c0 c1 c2 c3 c4 E J L;generalize wr.heap.size=i6 at C ⊢;generalize wr.alloc _=W5 at C a a2 ⊢;obtain⟨cs,l0⟩:∃ z,sgn (combA p c.mult k).num=z:=⟨_,rfl⟩
   refine(Qk W5 _ (combA p c.mult k) cs 80 a2.o l0 (by decide)).mono ?_;rintro _ w6 ⟨_,rfl,g6,rfl⟩;obtain⟨a,C,a5⟩:=Z3 (a.o.grow g6) (C.o.grow g6) (U0 l0);clear g6 l0 a2;by_cases h0:cs=0
   ·have HZ:=Z (a5.o.1 h0);have j1:=Z (show ceilQ (combA p c.mult k)=0 from by rw[HZ.o];decide +kernel);subst h0;go_wp2_with fail;refine⟨⟨k+1,by go_num,by omega,sm,tv,ts,rfl,?_,?_,?_,?_⟩,by simp[RowKit.intOf];omega⟩
    ·rw[V1,f9.o,j1.o];exact⟨fun h=>⟨h,by unfold In;decide⟩,fun h=>h.1⟩
    ·intro h;rw[Oj,if_pos j1.o,List.append_nil];exact i4.o h
    ·have:=i3.o;omega
    ·have J:combB p c.mult - sumQ (loT p.vars (combA p c.mult)) (k+1)=combB p c.mult - sumQ (loT p.vars (combA p c.mult)) k:=by
      rw[Ls];have:loT p.vars (combA p c.mult) k=0:=by unfold loT;rw[HX.o,HZ.o];simp
      rw[this,Rat.add_zero]
     have L:moreZ p.vars (fun j=>ceilQ (combA p c.mult j)) (k+1)=moreZ p.vars (fun j=>ceilQ (combA p c.mult j)) k:=by
      rw[Uc HX.o,j1.o];simp
     rw[J,L];exact a.o
   have E:(cs == 0)=false:=by simpa using h0
   clear h0 a5;go_wp2_with fail;clear E;refine(Md w6 0 (by decide) (by decide)).mono ?_;rintro _ w7 ⟨r7,rfl,g7,h7⟩;obtain⟨s7,p7,k7,c7,e7,m7,n7,rfl⟩:=h7.agg;have f6:=box3 w7 (.bool s7) (.slice p7 k7 c7) (.slice e7 m7 n7) 68;obtain⟨a8,a,m,j3,C⟩:=Z5 ((a.o.grow g7).apart (Nat.le_refl _)) (a.o.grow (g7.trans f6.1)) f6.2 (show i6≠w7.heap.size from by have:=(C.o.grow g7).lt;omega) (C.o.grow (g7.trans f6.1));have z3:=C.o.at 3 rfl;obtain⟨ta,a1,a0⟩:=a.o.ro.at i8;obtain⟨E,J,L⟩:=a0 _ (Gr.refl _);have a2:=Z a1;clear a1 a0 f6 h7 g7;go_wp2_with fail;clear E J L z3;generalize w7.heap.size=a7 at m a8 j3 ⊢;generalize w7.alloc _=W7 at m C a a2 ⊢;refine(J0n W7 _ (combA p c.mult k) (ceilQ (combA p c.mult k)) 80 a2.o rfl (by decide) (by decide)).mono ?_;rintro _ w8 ⟨r8,rfl,g8,h8⟩;have i5:=Z (show(digs (ceilQ (combA p c.mult k)).natAbs).length≤81 from P5 (HC.o.a p.rows.length k (Nat.le_refl _)));obtain⟨uz,l6⟩:∃ z,ceilQ (combA p c.mult k)=z:=⟨_,rfl⟩
   have b6:=Z l6;rw[l6] at h8 i5;obtain⟨a,m,C,H8⟩:=Z4 (a.o.grow g8) (m.o.grow g8) (C.o.grow g8) h8;clear g8 h8 l6 a2;go_wp2_with fail;refine(V8 w8 _ uz H8.o).mono ?_;rintro _ w9 ⟨r9,rfl,g9,h9⟩;obtain⟨s9,p9,k9,c9,e9,m9,n9,rfl⟩:=h9.agg;obtain⟨a,m,C⟩:=Z3 (a.o.grow g9) (m.o.grow g9) (C.o.grow g9);have M:=m.o.load.1;have N:=m.o.load.2.1;have O:=m.o.load.2.2;have P:=m.o.f0 0;have Q:=m.o.f0 1;have f5:=m.o.f0 2;have z0:=C.o.at 0 rfl;have q:=Z (show RpSt w (set3 w9 a7 (.bool s9) (.slice p9 k9 c9) (.slice e9 m9 n9)) bp b4 bo b7 b8 b9 _ _ _ _ _ tv ts _∧J9 (set3 w9 a7 (.bool s9) (.slice p9 k9 c9) (.slice e9 m9 n9)) a7 (uz:Rat)∧Ja (set3 w9 a7 (.bool s9) (.slice p9 k9 c9) (.slice e9 m9 n9)) i6 _ from
    ⟨a.o.setX m.o.noInt a8.o.2.2 a8.o.1 a8.o.2.1,⟨⟨s9,p9,k9,c9,e9,m9,n9⟩,m.o.set _ _ _,h9.upd m.o.noInt (upd3 _ _ _ _ _)⟩,C.o.upd (upd3 _ _ _ _ _) j3.o⟩)
   have o9:¬ i6=a7:=j3.o;have s3:¬ a7=i6:=fun e=>o9 e.symm;clear h9 g9 m C a H8;go_wp2_with fail;clear M N O P Q f5 z0 o9 s3;unfold set3 at q;generalize ((w9.setCell _ _).setCell _ _).setCell _ _=W9 at q ⊢;refine(Md W9 x.lo (Kd d3.o.1).1 (Kd d3.o.1).2).mono ?_;rintro _ e3 ⟨t9,rfl,d4,k0⟩;obtain⟨s5,p5,k5,c5,e5,m5,n5,rfl⟩:=k0.agg;have b2:=box3 e3 (.bool s5) (.slice p5 k5 c5) (.slice e5 m5 n5) 68;obtain⟨m0,q5,a,m,Y⟩:=Z5 ((q.o.1.grow d4).apart (Nat.le_refl _)) (show a7≠e3.heap.size from by have:=(q.o.2.1.grow d4).lt;omega) (q.o.1.grow (d4.trans b2.1)) (q.o.2.1.grow (d4.trans b2.1)) (show J9 _ e3.heap.size (x.lo:Rat) from⟨⟨s5,p5,k5,c5,e5,m5,n5⟩,b2.2,k0.grow b2.1⟩);clear q k0 d4 b2;go_wp2_with fail;generalize e3.heap.size=t3 at Y m0 q5 ⊢;generalize e3.alloc _=m1 at m Y a ⊢;obtain⟨tl,y,U⟩:=a.o.t7;have j7:=Z U;have d0:=y.c0;have d1:=y.c1;have d2:=y.c2;obtain⟨ta,a1,a0⟩:=a.o.ro.at i8;have E:=fun w' g=>(a0 w' g).1;have J:=fun w' g=>(a0 w' g).2.1;have L:=fun w' g=>(a0 w' g).2.2;have a2:=Z a1;obtain⟨tk,a4,d8⟩:=Y.o;have j6:=Z d8;have i0:=a4.c0;have i1:=a4.c1;have i2:=a4.c2;have S:Gr m1 m1.drew:=(Gr.refl _).drew;have d:=Z S;clear y U a1 a0 a4 d8;refine Jl [(0,true),(1,true),(2,true),(3,true),(4,true),(5,true),(6,false),(7,false),(8,false)] ?_;repeat(refine Jc S (h:=?_))
   refine Je (k:=N3 _ _ _ (combA p c.mult k) (x.lo:Rat) (loT p.vars (combA p c.mult) k) 80 2 (a2.o.grow d.o) (RatC.v (j6.o.grow d.o) (Km d3.o.1)) (by unfold loT;rw[HX.o]) (by decide) (by decide)) (h:=?_);rintro v0 v5 m3 o2;have d:=Z (d.o.trans m3);refine Je (k:=J5m _ _ _ (combB p c.mult - sumQ (loT p.vars (combA p c.mult)) k) (loT p.vars (combA p c.mult) k) (combB p c.mult - sumQ (loT p.vars (combA p c.mult)) (k+1)) 80 80 (RatC.v (j7.o.grow d.o) (HC.o.r k (by omega))) (o2.v (HC.o.r0 k)) (No (HC.o.r0 k)) (by rw[Ls];grind) (by decide) (by decide)) (h:=?_);rintro v1 l7 n0 k2;have d:=Z (d.o.trans n0);clear o2;obtain⟨a,m,Y⟩:=Z3 (a.o.grow d.o) (m.o.grow d.o) (Y.o.grow d.o);obtain⟨s6,p6,k6,c6,e6,m6,n6,rfl⟩:=k2.agg;obtain⟨tb,y,-⟩:=a.o.t7;have M:=y.load.1;have N:=y.load.2.1;have O:=y.load.2.2;have P:=y.f0 0;have Q:=y.f0 1;have f5:=y.f0 2;have q:=Z (And.intro (a.o.putB a6.o (t:=⟨s6,p6,k6,c6,e6,m6,n6⟩) k2) (And.intro (m.o.upd a.o.t7.noInt (upd3 l7 b7 (.bool s6) (.slice p6 k6 c6) (.slice e6 m6 n6)) a8.o.1.2.2.2.1.symm) (Y.o.upd a.o.t7.noInt (upd3 l7 b7 (.bool s6) (.slice p6 k6 c6) (.slice e6 m6 n6)) m0.o.1.2.2.2.1.symm)));clear k2 y d0 d1 d2 E J L i0 i1 i2 a m Y;refine Jj rfl rfl (fun K hK=>?_);go_simp;refine⟨fun h=>Bool.noConfusion h,hK _ _ ?_⟩;clear hK K;unfold set3 at q;dsimp only at q;generalize ((l7.setCell _ _).setCell _ _).setCell _ _=m2 at q ⊢;refine Jg ?_;clear M N O P Q f5 S m3 n0;obtain⟨a,m,Y⟩:=Z3 q.o.1 q.o.2.1 q.o.2.2;clear q;go_wp2_with fail;obtain⟨tl,B,U⟩:=a.o.t9;have j8:=Z U;have d0:=B.c0;have d1:=B.c1;have d2:=B.c2;obtain⟨tu,a3,d9⟩:=m.o;have g2:=Z d9;have E:=a3.c0;have J:=a3.c1;have L:=a3.c2;obtain⟨tk,a4,d8⟩:=Y.o;have j6:=Z d8;have i0:=a4.c0;have i1:=a4.c1;have i2:=a4.c2;have j2:=Z (show ∀ j,(ceilQ (combA p c.mult j)).natAbs < BB ^ 81 from fun j=>V9 (HC.o.a p.rows.length j (Nat.le_refl _)));have S:Gr m2 m2.drew:=(Gr.refl _).drew;have d:=Z S;clear B U a3 d9 a4 d8;refine Jl [(0,true),(1,true),(2,true),(3,false),(4,false),(5,false)] ?_;repeat(refine Jc S (h:=?_))
   refine Je (k:=N3 _ _ _ (uz:Rat) (x.lo:Rat) ((uz * x.lo:Int):Rat) 81 2 (RatC.v (g2.o.grow d.o) (Oz i5.o (by decide))) (RatC.v (j6.o.grow d.o) (Km d3.o.1)) (Rat.intCast_mul _ _).symm (by decide) (by decide)) (h:=?_);rintro v2 v6 o0 o3;have d:=Z (d.o.trans o0);refine Je (k:=Rs _ _ _ _ ((uz * x.lo:Int):Rat) ((moreZ p.vars (fun j=>ceilQ (combA p c.mult j)) (k+1):Int):Rat) 84 84 (RatC.v (j8.o.grow d.o) (Zi HK.o.2.2.1 (fun j _=>j2.o j) (by omega))) (o3.v (Oz (Kj (Nat.lt_of_lt_of_le (Zm (Kt i5.o) (Y9 d3.o.1)) (Nat.pow_le_pow_right (by decide) (by decide)))) (by decide))) (by rw[Uc HX.o,b6.o,Rat.intCast_add]) (by decide) (by decide)) (h:=?_);rintro v3 q4 o1 k3;have d:=Z (d.o.trans o1);clear o3;obtain⟨a,m⟩:=Z2 (a.o.grow d.o) (m.o.grow d.o);obtain⟨s4,p4,k4,c4,e4,m4,n4,rfl⟩:=k3.agg;obtain⟨tb,B,-⟩:=a.o.t9;have M:=B.load.1;have N:=B.load.2.1;have O:=B.load.2.2;have P:=B.f0 0;have Q:=B.f0 1;have f5:=B.f0 2;have q:=Z (And.intro (a.o.putM a6.o (t:=⟨s4,p4,k4,c4,e4,m4,n4⟩) k3) (m.o.upd a.o.t9.noInt (upd3 q4 b9 (.bool s4) (.slice p4 k4 c4) (.slice e4 m4 n4)) a8.o.1.2.2.2.2.2.symm));clear k3 B d0 d1 d2 E J L i0 i1 i2 a m Y;refine Jj rfl rfl (fun K hK=>?_);go_simp;refine⟨fun h=>Bool.noConfusion h,hK _ _ ?_⟩;clear hK K;unfold set3 at q;dsimp only at q;generalize ((q4.setCell _ _).setCell _ _).setCell _ _=r0 at q ⊢;refine Jg ?_;clear M N O P Q f5 S o0 o1;have a:=Z q.o.1;obtain⟨tu,a3,d9⟩:=q.o.2;have g2:=Z d9;have E:=a3.load.1;have J:=a3.load.2.1;have L:=a3.load.2.2;clear q a3 d9;go_wp2_with fail;clear E J L;refine(V7 r0 _ uz 81 (RatC.v g2.o (Oz i5.o (by decide))) (by decide)).mono ?_;rintro _ l8 ⟨_,rfl,g15,I,X,rfl,b1,d5⟩;obtain⟨a,j9,f8,j5⟩:=Z4 (a.o.grow g15) b1 d5 (show(sm && X)=true↔∀ j,j < k+1→In (ceilQ (combA p c.mult j)) from by rw[V1,b6.o];exact J23 f9.o b1);clear g15 b1 d5 g2;by_cases hz:I=0
   ·have E:(I != 0)=false:=by simpa using hz
    have f7:=Z (show(sm && X)=true→ts=cutTerms (combA p c.mult) (k+1) from fun h=>by
     have h2:=(Bool.and_eq_true _ _ ▸ h:sm=true∧X=true)
     have h3:uz=0:=by rw[← f8.o h2.2];exact hz
     rw[Oj,if_pos (by rw[b6.o];exact h3),List.append_nil];exact i4.o h2.1)
    clear hz
    cases sm<;>cases X<;>(go_wp2_with fail;refine⟨⟨k+1,by go_num,by omega,_,tv,ts,rfl,j5.o,f7.o,by have:=i3.o;omega,a.o⟩,by simp[RowKit.intOf];omega⟩)
   ·have E:(I != 0)=true:=by simpa using hz
    have f7:=Z (show(sm && X)=true→ts ++ [⟨(k:Int),I⟩]=cutTerms (combA p c.mult) (k+1) from fun h=>by
     have h2:=(Bool.and_eq_true _ _ ▸ h:sm=true∧X=true)
     have h3:=f8.o h2.2;rw[Oj,if_neg (by rw[b6.o,← h3];exact hz),b6.o,← h3,← i4.o h2.1])
    clear hz;have c6:=a.o.t8.at 3 rfl;have BS:=SlL.new (enc:=encTerm) (sz:=2) l8 75 Mm [⟨(k:Int),I⟩] #[.int .i64 (k:Int),.int .i64 I] 1 rfl rfl (by decide);have c6:=(a.o.grow BS.1).t8.at 3 rfl;have c7:=a.o.t8.at 3 rfl;obtain⟨a,j0⟩:=Z2 (a.o.grow BS.1) BS.2;clear BS;generalize d7:(sm && X)=st at f7 j5;have q8:=Z d7;clear d7
    cases sm<;>cases X
    all_goals
     go_wp2_with (at_builtin;refine Hold.hold ?_);clear c6 c7;generalize l8.heap.size=bs at j0 ⊢;generalize l8.alloc _=v7 at a j0 ⊢;refine Hold.go ?_;refine Vo rfl _ _ rfl w.heap.size tv _ ts ⟨(k:Int),I⟩ rfl a.o.tw rfl j0.o (by have:=i3.o;omega) a.o.g.size ?_;intro v4 t2 h1 h2 h3 h4;obtain⟨⟨q1,q2⟩,q3⟩:=a.o.putT a6.o h1 h2 h3 h4;obtain⟨pt,ct,p0⟩:=Li h1;obtain⟨ln,o7⟩:∃ n,(ts ++ ([⟨(k:Int),I⟩]:List Ji)).length=n:=⟨_,rfl⟩
     rw[o7] at p0;subst p0;obtain⟨t8,t4,p1⟩:=Li a.o.tw;obtain⟨t1,i7⟩:∃ n,ts.length=n:=⟨_,rfl⟩
     rw[i7] at p1;subst p1;have q:=Z q3;clear h1 h2 h3 h4 q3 o7 i7;go_wp2_with fail;clear q1 q2;generalize t2.setCell _ _=W7 at q ⊢;refine⟨⟨k+1,by go_num,by omega,st,_,ts ++ [⟨(k:Int),I⟩],by rw[← q8.o];rfl,j5.o,f7.o,by have:=i3.o;simp;omega,q.o⟩,by simp[RowKit.intOf];omega⟩
  ·obtain rfl:k=p.vars.length:=by omega
   go_wp2_with fail;obtain⟨tl,y,U⟩:=a.o.t7;have j7:=Z U;have d0:=y.c0;have d1:=y.c1;have d2:=y.c2;obtain⟨tm,B,p3⟩:=a.o.t9;have j8:=Z p3;have E:=B.c0;have J:=B.c1;have L:=B.c2;have j2:=Z (show ∀ j,(ceilQ (combA p c.mult j)).natAbs < BB ^ 81 from fun j=>V9 (HC.o.a p.rows.length j (Nat.le_refl _)));have l9:=Z (Zi (k:=p.vars.length) HK.o.2.2.1 (fun j _=>j2.o j) hn);have S:Gr wr wr.drew:=(Gr.refl _).drew;have d:=Z S;clear y U B p3;refine Jl [(0,true),(2,true),(1,false),(3,false),(4,false),(5,false),(6,false),(7,true),(8,true),(9,true),(10,true),(11,true)] ?_;repeat(refine Jc S (h:=?_))
   refine Je (k:=J0n _ _ _ (ceilQ (combB p c.mult - sumQ (loT p.vars (combA p c.mult)) p.vars.length)) 80 (RatC.v (j7.o.grow d.o) (HC.o.r _ (Nat.le_refl _))) rfl (by decide) (by decide)) (h:=?_);rintro r4 w4 g4 h4;obtain⟨d,H4⟩:=Z2 (d.o.trans g4) (h4.v (P5 (HC.o.r _ (Nat.le_refl _))));clear h4;refine Je (k:=J0o _ _ _ (moreZ p.vars (fun j=>ceilQ (combA p c.mult j)) p.vars.length) 84 (RatC.v (j8.o.grow d.o) l9.o) (Rat.floor_intCast _) (by decide)) (h:=?_);rintro r5 w5 D h5;obtain⟨d,H4,H5⟩:=Z3 (d.o.trans D) (H4.o.grow D) (h5.v l9.o.1);clear h5;obtain⟨cz,o6⟩:∃ z,cutBound p c.mult=z:=⟨_,rfl⟩
   have a5:=Z o6;refine Je (k:=Vg _ _ _ (ceilQ (combB p c.mult - sumQ (loT p.vars (combA p c.mult)) p.vars.length)) (moreZ p.vars (fun j=>ceilQ (combA p c.mult j)) p.vars.length) cz 81 84 H4.o H5.o (by rw[← a5.o,Xf]) (by decide) (by decide)) (h:=?_);rintro r6 w6 g6 h6;have d:=Z (d.o.trans g6);clear o6;refine Je (k:=V8 _ _ cz h6.1) (h:=?_);rintro r7 w7 g7 h7;have d:=Z (d.o.trans g7);refine Je (k:=V7 _ _ cz 166 (h7.v (Oz h6.2.len (by decide))) (by decide)) (h:=?_);rintro _ w8 g8 ⟨I,X,rfl,b1,d5⟩;obtain⟨d,j9,f8⟩:=Z3 (d.o.trans g8) b1 d5;have g9:=d.o;clear h6 h7 b1 d5;repeat(refine Jc g9 (h:=?_))
   refine Jg ?_;have a:=Z (a.o.grow d.o);clear d0 d1 d2 E J L S g4 D g6 g7 g8 g9 d H4 H5;have f:=Z (show Ja w8 b4 #[.string ⟨#[]⟩,.int .i64 0,.int .i64 0,.slice none 0 0,.int .i64 0] from a.o.t4);by_cases d6:X=true∧sm=true
   ·obtain⟨rfl,rfl⟩:=d6;obtain⟨q6,q9⟩:=Z2 (show Mz p c.mult from⟨H1.o,f9.o.1 rfl,by rw[a5.o];exact j9.o.1 rfl⟩) (i4.o rfl);obtain rfl:=f8.o rfl;obtain⟨pt,ct,rfl⟩:=Li a.o.tw;obtain⟨t1,i7⟩:∃ n,ts.length=n:=⟨_,rfl⟩
    obtain⟨b0,l⟩:=Z2 (show Ja w8 b8 #[.string ⟨cutName.toArray⟩,.int .i64 0,.int .i64 1,.slice pt ts.length ct,.int .i64 0] from a.o.t8) (J62 a.o a6.o I);have y0:=b0.o.at 0 rfl;have y1:=b0.o.at 1 rfl;have y2:=b0.o.at 2 rfl;have y3:=b0.o.at 3 rfl;have y4:=b0.o.at 4 rfl;have y5:=Ja.f b0.o 4;have c0:=f.o.at 0 rfl;have c1:=f.o.at 1 rfl;have c2:=f.o.at 2 rfl;have c3:=f.o.at 3 rfl;have c4:=f.o.at 4 rfl;have M:=Ja.f f.o 0;have N:=Ja.f f.o 1;have O:=Ja.f f.o 2;have P:=Ja.f f.o 3;have Q:=Ja.f f.o 4;have t0:¬ b4=b8:=a6.o.x4.2.2.1;have t7:¬ b8=b4:=fun e=>t0 e.symm;clear i7;go_wp2_with fail;clear c0 c1 c2 c3 c4 M N O P Q y0 y1 y2 y3 y4 y5;try rw[Exit.noGoto_ret]
    generalize w8.setCell ⟨b8,4,none⟩ (.int .i64 I)=Wb at l ⊢;have hf:=fill5 (.string ⟨cutName.toArray⟩) (.int .i64 0) (.int .i64 1) (.slice pt ts.length ct) (.int .i64 I) l.o.2.2.1 l.o.1 b3.o;have HF:=Z (show _∧_∧Ju _ w.heap.size _ _ from⟨hf.1,hf.2.1,l.o.2.2.2.1.same hf.2.2 (by simp[World.setCell]) (L4 l.o.2.2.2.1 l.o.2.2.2.2) rfl rfl rfl⟩);clear hf;generalize ((((Wb.setCell _ _).setCell _ _).setCell _ _).setCell _ _).setCell _ _=W6 at HF ⊢;have z0:=HF.o.2.1.at 0 rfl;have z1:=HF.o.2.1.at 1 rfl;have z2:=HF.o.2.1.at 2 rfl;have z3:=HF.o.2.1.at 3 rfl;have z4:=HF.o.2.1.at 4 rfl;refine bodyPost_ret (by simp[results,Tryz.results205,go_sem,z0,z1,z2,z3,z4];rfl) rfl ?_;exact⟨_,rfl,HF.o.1,.inl ⟨q6.o,⟨cutName,0,1,pt,ct,ts,I⟩,rfl,by unfold roundRow;rw[a5.o,← q9.o];rfl,HF.o.2.2⟩⟩
   ·have H:=Z (show ¬ Mz p c.mult from fun h=>d6 ⟨j9.o.2 (by rw[← a5.o];exact h.2.2),f9.o.2 h.2.1⟩)
    cases X
    ·clear d6;have c0:=f.o.at 0 rfl;have c1:=f.o.at 1 rfl;have c2:=f.o.at 2 rfl;have c3:=f.o.at 3 rfl;have c4:=f.o.at 4 rfl;have M:=Ja.f (f.o) 0;have N:=Ja.f (f.o) 1;have O:=Ja.f (f.o) 2;have P:=Ja.f (f.o) 3;have Q:=Ja.f (f.o) 4;have l:=Z (fill5 (.string ⟨#[]⟩) (.int .i64 0) (.int .i64 0) (.slice none 0 0) (.int .i64 0) (f.o) (a.o.g) b3.o);go_wp2_with fail;try rw[Exit.noGoto_ret]
     generalize ((((w8.setCell _ _).setCell _ _).setCell _ _).setCell _ _).setCell _ _=W5 at l ⊢;clear c0 c1 c2 c3 c4 M N O P Q;have z0:=l.o.2.1.at 0 rfl;have z1:=l.o.2.1.at 1 rfl;have z2:=l.o.2.1.at 2 rfl;have z3:=l.o.2.1.at 3 rfl;have z4:=l.o.2.1.at 4 rfl;refine bodyPost_ret (by simp[results,Tryz.results205,go_sem,z0,z1,z2,z3,z4];rfl) rfl ?_;exact⟨_,rfl,l.o.1,.inr ⟨H.o,8,by first|decide|exact HEE.o,rfl⟩⟩
    ·cases sm
     ·clear d6;have c0:=f.o.at 0 rfl;have c1:=f.o.at 1 rfl;have c2:=f.o.at 2 rfl;have c3:=f.o.at 3 rfl;have c4:=f.o.at 4 rfl;have M:=Ja.f (f.o) 0;have N:=Ja.f (f.o) 1;have O:=Ja.f (f.o) 2;have P:=Ja.f (f.o) 3;have Q:=Ja.f (f.o) 4;have l:=Z (fill5 (.string ⟨#[]⟩) (.int .i64 0) (.int .i64 0) (.slice none 0 0) (.int .i64 0) (f.o) (a.o.g) b3.o);go_wp2_with fail;try rw[Exit.noGoto_ret]
      generalize ((((w8.setCell _ _).setCell _ _).setCell _ _).setCell _ _).setCell _ _=W5 at l ⊢;clear c0 c1 c2 c3 c4 M N O P Q;have z0:=l.o.2.1.at 0 rfl;have z1:=l.o.2.1.at 1 rfl;have z2:=l.o.2.1.at 2 rfl;have z3:=l.o.2.1.at 3 rfl;have z4:=l.o.2.1.at 4 rfl;refine bodyPost_ret (by simp[results,Tryz.results205,go_sem,z0,z1,z2,z3,z4];rfl) rfl ?_;exact⟨_,rfl,l.o.1,.inr ⟨H.o,8,by first|decide|exact HEE.o,rfl⟩⟩
     ·exact absurd ⟨rfl,rfl⟩ d6
theorem J3Q (w:World)(z:Int):Calls Tryz.prog 149 #[.slice none 0 0,.int .i64 z] w (Ret w fun r _=>r = .bool false):=by
 have h:Calls Tryz.prog 208 #[.slice none 0 0,.int .i64 z] w (Ret w fun r _=>r = .int .i64 (-1)):=by
  go_enter Tryz.func208,Tryz.ntmps208;go_wp2_with fail;go_loopw [8] (fun i c=>i = .int .i64 0∧Gr w c) (fun i _=>0)
  case atStart=>exact⟨rfl,Gr.refl _⟩
  case round=>
   obtain⟨rfl,b⟩:=hrel;have G:=Z b;clear b;go_wp2_with fail;go_ret;exact⟨_,rfl,G.o,rfl⟩
 have H:=Z h;clear h;go_enter Tryz.func149,Tryz.ntmps149;go_wp2_with fail;refine H.o.mono ?_;rintro _ d ⟨_,rfl,a,rfl⟩;have G:=Z a;clear a;go_wp2_with fail;go_ret;exact⟨_,rfl,G.o,rfl⟩
abbrev Lj (w:World)(base:Nat)(y:RowM):Prop:=OwnL w base 75 2 encTerm (.slice y.tp y.terms.length y.tc) y.terms
abbrev tv (y:RowM):Value:=.slice y.tp y.terms.length y.tc
structure WoSt (w W:World)(bp b4 b5:Nat)(u0 u1:Value)(n:Nat)(pv:Option Addr)(cv:Nat)(V:List VarM)(rv:Value)(T:List RowM):Prop where
 g:Gr w W
 tp:Ja W bp #[u0,u1]
 t4:Ja W b4 #[.slice none 0 0,.slice none 0 0]
 t5:Ja W b5 #[.slice pv n cv,rv]
 ov:OwnL W w.heap.size 62 5 encVar (.slice pv n cv) V
 orr:OwnL W w.heap.size 42 5 encRow rv T
 tt:∀ y ∈ T,Lj W w.heap.size y
 ne:∀ b,rv.ownBlock=some b→b≠bp∧b≠b4∧b≠b5∧(Value.slice pv n cv).ownBlock≠some b∧∀ y ∈ T,(tv y).ownBlock≠some b
 nv:(Value.slice pv n cv).ownBlock≠some b4∧(Value.slice pv n cv).ownBlock≠some b5
 nt:∀ y ∈ T,(tv y).ownBlock≠some b4∧(tv y).ownBlock≠some b5
section
variable {w W:World}{bp b4 b5:Nat}{u0 u1:Value}{n:Nat}{pv:Option Addr}{cv:Nat}{V:List VarM}{rv:Value}{T:List RowM}
theorem WoSt.grow {a:World}(h:WoSt w W bp b4 b5 u0 u1 n pv cv V rv T)(g:Gr W a):WoSt w a bp b4 b5 u0 u1 n pv cv V rv T:=
 ⟨h.g.trans g,h.tp.grow g,h.t4.grow g,h.t5.grow g,h.ov.grow g,h.orr.grow g,fun y b=>(h.tt y b).grow g,h.ne,h.nv,h.nt⟩
theorem WoSt.put {d:World}{i:Value}{y:RowM}(h:WoSt w W bp b4 b5 u0 u1 n pv cv V rv T)(J:w.heap.size≤b5)(u:bp≠b5∧b4≠b5)(E:OwnL d w.heap.size 42 5 encRow i (T ++ [y]))(f:W.grownBy d rv.ownBlock)
  (c:i.ownBlock=rv.ownBlock∨i.ownBlock=some W.heap.size) (x:Lj W w.heap.size y) (B:∀ b,rv.ownBlock=some b→(tv y).ownBlock≠some b) (C:(tv y).ownBlock≠some b4∧(tv y).ownBlock≠some b5):
  (d.cell? ⟨b5,1,none⟩=some rv∧d.frozen? ⟨b5,1,none⟩=false)∧WoSt w (d.setCell ⟨b5,1,none⟩ i) bp b4 b5 u0 u1 n pv cv V i (T ++ [y]):=by
 have p:∀ b vs,Ja W b vs→(∀ g,rv.ownBlock=some g→g≠b)→d.heap[b]?=W.heap[b]?:=fun b vs G m=>f.block b G.lt (fun e=>m b e.symm rfl);have c5:=K3 h.t5 (p b5 _ h.t5 fun g f=>(h.ne g f).2.2.1);have D:=K3 h.tp (p bp _ h.tp fun g f=>(h.ne g f).1);have c4:=K3 h.t4 (p b4 _ h.t4 fun g f=>(h.ne g f).2.1);have F:Gr w d:=OwnL.gr h.orr h.g f;have t:=J5 d b5 1 i;have q:∀ {α:Type} {enc:α→List Value} {sz:Nat} {e:TypeId} {v:Value} {l:List α},OwnL W w.heap.size e sz enc v l→(∀ b,rv.ownBlock=some b→v.ownBlock≠some b)→OwnL d w.heap.size e sz enc v l:=fun I m=>World.ownsRow.kept I f (by
  cases o:rv.ownBlock with
  | none=>
   rename_i v l
   cases hv:v.ownBlock with
   | none=>exact .inl rfl
   | some b=>exact .inr (fun e=>by cases e)
  | some b=>exact .inr (by rw[← o];exact fun e=>m b o (e.trans o)))
 have H:=World.ownsRow.lt h.ov;have r:∀ b,i.ownBlock=some b→b≠bp∧b≠b4∧b≠b5∧(Value.slice pv n cv).ownBlock≠some b∧∀ z ∈ T ++ [y],(tv z).ownBlock≠some b:=fun b k=>by
  rcases c with c|c
  ·have j:=h.ne b (c ▸ k);refine⟨j.1,j.2.1,j.2.2.1,j.2.2.2.1,fun z a=>?_⟩;rcases List.mem_append.1 a with a|a
   ·exact j.2.2.2.2 z a
   ·obtain rfl:=List.mem_singleton.1 a;exact B b (c ▸ k)
  ·rw[c] at k;obtain rfl:=Option.some.inj k;have K:=h.tp.lt;have L:=h.t4.lt;have M:=h.t5.lt;refine⟨by omega,by omega,by omega,fun e=>?_,fun z a e=>?_⟩
   ·have:=(H _ e).2;omega
   ·rcases List.mem_append.1 a with a|a
    ·have:=(World.ownsRow.lt (h.tt z a) _ e).2;omega
    ·obtain rfl:=List.mem_singleton.1 a;have:=(World.ownsRow.lt x _ e).2;omega
 refine⟨⟨c5.at 1 rfl,c5.f 1⟩,⟨Gr.set F (by omega) _,D.upd t u.1,c4.upd t u.2,?_,?_,?_,fun z a=>?_,r,h.nv,fun z a=>?_⟩⟩
 ·have:=c5.set 1 i;simpa using this
 ·exact OwnL.other (q h.ov fun b c=>(h.ne b c).2.2.2.1) h.nv.2
 ·exact OwnL.other E (fun e=>(r b5 e).2.2.1 rfl)
 ·rcases List.mem_append.1 a with a|a
  ·exact OwnL.other (q (h.tt z a) fun b c=>(h.ne b c).2.2.2.2 z a) (h.nt z a).2
  ·obtain rfl:=List.mem_singleton.1 a;exact OwnL.other (q x B) C.2
 ·rcases List.mem_append.1 a with a|a
  ·exact h.nt z a
  ·obtain rfl:=List.mem_singleton.1 a;exact C
end
def Lx (w:World)(base:Nat)(v:Value)(q:Prg):Prop:=
 ∃ a c b d T,v=prgV a c b d q∧OwnL w base 62 5 encVar (.slice a q.vars.length c) q.vars∧OwnL w base 42 5 encRow (.slice b q.rows.length d) T∧T.map RowM.s=q.rows∧∀ y ∈ T,Lj w base y
def J1S (w:World)(base:Nat)(v:Value)(q:Prg):Prop:=
 ∃ a c b d T,v=prgV a c b d q∧OwnL w base 62 5 encVar (.slice a q.vars.length c) q.vars∧OwnL w base 42 5 encRow (.slice b q.rows.length d) T∧T.map RowM.s=q.rows∧(∀ y ∈ T,Lj w base y)∧
  ∀ k,(Value.slice b q.rows.length d).ownBlock=some k→(Value.slice a q.vars.length c).ownBlock≠some k∧∀ y ∈ T,(tv y).ownBlock≠some k
theorem OwnL.keptR {α:Type}{enc:α→List Value}{sz:Nat}{e:TypeId}{W c:World}{base:Nat}{v rv:Value}{l:List α}(g:OwnL W base e sz enc v l)(d:W.grownBy c rv.ownBlock)(f:∀ b,rv.ownBlock=some b→v.ownBlock≠some b):OwnL c base e sz enc v l:=
 World.ownsRow.kept g d (by
  cases a:rv.ownBlock with
  | none=>
   cases hv:v.ownBlock with
   | none=>exact .inl rfl
   | some b=>exact .inr (fun e=>by cases e)
  | some b=>exact .inr (by rw[← a];exact fun e=>f b a (e.trans a)))
theorem Lx.at {w:World}{base:Nat}{v:Value}{q:Prg}(h:Lx w base v q):Js w v q:=by
 obtain⟨a,c,b,d,T,rfl,f,g,i,j⟩:=h;exact⟨a,c,b,d,rfl,f.read,T,g.read,i,fun y k=>(j y k).read⟩
theorem Lx.kept {w w':World}{base f:Nat}{v:Value}{q:Prg}(h:Lx w base v q)(t:f < base)(g:w.grownBy w' (some f)):Lx w' base v q:=by
 have k:∀ {α:Type} {enc:α→List Value} {sz:Nat} {e:TypeId} {v:Value} {l:List α},OwnL w base e sz enc v l→OwnL w' base e sz enc v l:=fun i=>World.ownsRow.kept i g (.inr fun e=>by have:=(World.ownsRow.lt i f e).1;omega);obtain⟨a,c,b,d,T,rfl,j,m,o,p⟩:=h;exact⟨a,c,b,d,T,rfl,k j,k m,o,fun y r=>k (p y r)⟩
theorem Lx.low {w:World}{base g:Nat}{v:Value}{q:Prg}(h:Lx w base v q)(f:g≤base):Lx w g v q:=by
 obtain⟨a,c,b,d,T,rfl,i,j,k,l⟩:=h;exact⟨a,c,b,d,T,rfl,OwnL.low i f,OwnL.low j f,k,fun y m=>OwnL.low (l y m) f⟩
theorem Lx.grow {w w':World}{base:Nat}{v:Value}{q:Prg}(h:Lx w base v q)(g:Gr w w'):Lx w' base v q:=by
 obtain⟨a,c,b,d,T,rfl,f,i,j,k⟩:=h;exact⟨a,c,b,d,T,rfl,f.grow g,i.grow g,j,fun y l=>(k y l).grow g⟩
theorem J3V (w:World)(v:Value)(p:Prg)(hp:Js w v p)(hn:p.vars.length≤1000000)(hm:p.rows.length≤1000000)(hl:∀ r ∈ p.rows,r.terms.length≤1000000):
  Calls Tryz.prog 97 #[v,.slice none 0 0] w (Ret w fun r w'=>J1S w' w.heap.size r p):=by
 have HL:=Z hl;obtain⟨va,vc,vb,vd,rfl,hv,hr⟩:=hp;have HV:=Z hv;obtain⟨TT,c9,b1,d2⟩:=hr;have d3:TT.length=p.rows.length:=by rw[← b1,List.length_map]
 obtain⟨d8,c5,d9,e1⟩:=Z4 c9 b1 d2 d3;have B0:=Ja.new w #[.slice va p.vars.length vc,.slice vb p.rows.length vd] 25;have B1:=Ja.new (w.alloc (.cells #[.slice va p.vars.length vc,.slice vb p.rows.length vd] 25)) #[.slice none 0 0,.slice none 0 0] 25;simp only[World.size_alloc] at B1;have I:=Z (show Gr w _∧Ja _ w.heap.size #[.slice va p.vars.length vc,.slice vb p.rows.length vd]∧Ja _ (w.heap.size+1) #[.slice none 0 0,.slice none 0 0] from⟨B0.1.trans B1.1,B0.2.grow B1.1,B1.2⟩);clear hl hv c9 b1 d2 d3 B0 B1;unfold prgV;go_enter Tryz.func97,Tryz.ntmps97;go_wp2_with fail;generalize e5:w.heap.size+1=b4 at I ⊢;generalize e6:w.heap.size=bp at I ⊢;generalize (w.alloc _).alloc _=W at I ⊢;obtain⟨G,TP,T4,d7⟩:=Z4 I.o.1 I.o.2.1 I.o.2.2 (show w.heap.size≤b4∧bp≠b4 from by omega);clear I e5 e6;refine(Su W va p.vars.length vc p.vars (SlL.grow HV.o G.o) rfl hn).mono ?_;rintro _ H ⟨_,rfl,N,pv,cv,rfl,a9⟩;have U:=Ja.new H #[.slice pv p.vars.length cv,.slice none 0 0] 25;have X:=Z (show w.heap.size≤H.heap.size∧bp≠H.heap.size∧b4≠H.heap.size from by
  have g:=(TP.o.grow N).lt;have j:=(T4.o.grow N).lt;exact⟨(G.o.trans N).size,by omega,by omega⟩)
 have a2:=Z (show WoSt w (H.alloc (.cells #[.slice pv p.vars.length cv,.slice none 0 0] 25)) bp b4 H.heap.size (.slice va p.vars.length vc) (.slice vb p.rows.length vd) p.vars.length pv cv p.vars (.slice none 0 0) [] from
  ⟨(G.o.trans N).trans U.1,TP.o.grow (N.trans U.1),T4.o.grow (N.trans U.1),U.2,OwnL.low (a9.grow U.1) G.o.size,OwnL.nil _ _ _,fun y q=>(by cases q),fun b h=>(by cases h),
   ⟨fun e=>by have:=(World.ownsRow.lt a9 _ e).1;have:=T4.o.lt;omega,fun e=>by have:=(World.ownsRow.lt a9 _ e).2;omega⟩,fun y q=>(by cases q)⟩)
 have y1:=a2.o.tp.at 1 rfl;clear a9 N U TP T4 G;go_wp2_with fail;clear y1;generalize H.heap.size=b5 at a2 X ⊢;generalize H.alloc _=W3 at a2 ⊢;go_loopw [15] (fun i w9=>∃ (k:Nat) (rv:Value) (T:List RowM),i = .int .i64 (k:Int)∧k≤p.rows.length∧T.map RowM.s=p.rows.take k∧WoSt w w9 bp b4 b5 (.slice va p.vars.length vc) (.slice vb p.rows.length vd) p.vars.length pv cv p.vars rv T) (fun i _=>p.rows.length - (RowKit.intOf i).toNat)
 case atStart=>exact⟨0,_,[],rfl,Nat.zero_le _,rfl,a2.o⟩
 case round=>
  clear a2;obtain⟨k,rv,T,rfl,hk,hq,d6⟩:=hrel;obtain⟨HQ,a,a3⟩:=Z3 hq d6 (show T.length=k from by have:=congrArg List.length hq;simp at this;omega);clear hq d6;by_cases e7:k < p.rows.length
  ·have f6:(k:Int) < (p.rows.length:Int):=by omega
   have f5:IntKind.i64.wrap ((k:Int)+1)=(k:Int)+1:=by rw[IntKind.wrap_i64];omega
   obtain⟨b,o,x,rfl,hx,d4⟩:=J0V d8.o e1.o e7;obtain⟨E,c7,c8,c6⟩:=Z4 hx (show p.rows[k]?=some x.s from by rw[← c5.o,List.getElem?_map,hx];rfl) (d9.o x (List.mem_of_getElem? hx)) (show x.terms.length≤1000000 from HL.o _ (by rw[← c5.o];exact List.mem_map.2 ⟨x,List.mem_of_getElem? hx,rfl⟩));obtain⟨c0,c1,c2,c3,c4⟩:=d4 _ a.o.g;obtain⟨B,b3⟩:∃ z,x.group=z:=⟨_,rfl⟩
   rw[b3] at c1;have b6:=Z b3;have B7:=Ja.new wr #[.string ⟨x.name.toArray⟩,.int .i64 B,.int .i64 x.kind,.slice x.tp x.terms.length x.tc,.int .i64 x.bound] 42;have m:=Z (show bp≠wr.heap.size∧b4≠wr.heap.size∧b5≠wr.heap.size∧w.heap.size≤wr.heap.size∧rv.ownBlock≠some wr.heap.size∧(Value.slice pv p.vars.length cv).ownBlock≠some wr.heap.size∧∀ y ∈ T,(tv y).ownBlock≠some wr.heap.size from by
    have g:=a.o.tp.lt;have j:=a.o.t4.lt;have Y:=a.o.t5.lt;have h4:=a.o.g.size;refine⟨by omega,by omega,by omega,h4,fun e=>?_,fun e=>?_,fun y q e=>?_⟩
    ·have:=(World.ownsRow.lt a.o.orr _ e).2;omega
    ·have:=(World.ownsRow.lt a.o.ov _ e).2;omega
    ·have:=(World.ownsRow.lt (a.o.tt y q) _ e).2;omega)
   obtain⟨a,f⟩:=Z2 (a.o.grow B7.1) B7.2;clear hx d4 b3 B7;by_cases hg:B=0
   ·subst hg;have t3:=f.o.at 3 rfl;go_wp2_with fail;clear c0 c1 c2 c3 c4 t3;generalize wr.heap.size=b7 at f m ⊢;generalize wr.alloc _=W7 at f a ⊢;refine(Xa W7 x.tp x.terms.length x.tc x.terms (SlL.grow c8.o a.o.g) rfl c6.o).mono ?_;rintro _ t ⟨_,rfl,O,d,c,rfl,P⟩;have D:=Z (show(∀ b,rv.ownBlock=some b→(Value.slice d x.terms.length c).ownBlock≠some b)∧(Value.slice d x.terms.length c).ownBlock≠some b4∧(Value.slice d x.terms.length c).ownBlock≠some b5∧(Value.slice d x.terms.length c).ownBlock≠some b7 from by
     have l:=World.ownsRow.lt P;refine⟨fun b hb e=>?_,fun e=>?_,fun e=>?_,fun e=>?_⟩
     ·have g:=(l _ e).1;have j:=(World.ownsRow.lt a.o.orr b hb).2;omega
     ·have g:=(l _ e).1;have j:=a.o.t4.lt;omega
     ·have g:=(l _ e).1;have j:=a.o.t5.lt;omega
     ·have g:=(l _ e).1;have j:=f.o.lt;omega)
    obtain⟨a1,a,f,L⟩:=Z4 (OwnL.low P a.o.g.size) (a.o.grow O) (f.o.grow O) m.o.2.2.2.2;clear P O;have t0:=f.o.at 0 rfl;have t1:=f.o.at 1 rfl;have t2:=f.o.at 2 rfl;have t3:=f.o.at 3 rfl;have t4:=f.o.at 4 rfl;have f3:=Ja.f f.o 3;have u:=Z (show WoSt w (t.setCell ⟨b7,3,none⟩ (.slice d x.terms.length c)) bp b4 b5 _ _ _ pv cv p.vars rv T∧Lj (t.setCell ⟨b7,3,none⟩ (.slice d x.terms.length c)) w.heap.size ⟨x.name,0,x.kind,d,c,x.terms,x.bound⟩ from by
     have Q:=J5 t b7 3 (.slice d x.terms.length c);have s:=a.o;exact⟨⟨Gr.set s.g (by have:=m.o.2.2.2.1;omega) _,s.tp.upd Q m.o.1,s.t4.upd Q m.o.2.1,s.t5.upd Q m.o.2.2.1,s.ov.other L.o.2.1,s.orr.other L.o.1,fun y q=>OwnL.other (s.tt y q) (L.o.2.2 y q),s.ne,s.nv,s.nt⟩,OwnL.other a1.o D.o.2.2.2⟩)
    have S:=u.o.1.t5.at 1 rfl;have a4:¬ b5=b7:=m.o.2.2.1;have b2:¬ b7=b5:=fun e=>a4 e.symm;go_wp2_with (at_builtin;refine Hold.hold ?_);clear t0 t1 t2 t3 t4 f3 S a4 b2;have a8:(t.setCell ⟨b7,3,none⟩ (.slice d x.terms.length c)).heap.size=t.heap.size:=by simp[World.setCell]
    rw[← a8];clear a8;generalize t.setCell _ _=M at u ⊢;have C:=SlL.new (enc:=encRow) (sz:=5) M 42 Lk [⟨x.name,0,x.kind,d,c,x.terms,x.bound⟩] #[.string ⟨x.name.toArray⟩,.int .i64 0,.int .i64 x.kind,.slice d x.terms.length c,.int .i64 x.bound] 1 rfl rfl (by decide);obtain⟨a,HY,J⟩:=Z3 (u.o.1.grow C.1) (show Lj _ w.heap.size ⟨x.name,0,x.kind,d,c,x.terms,x.bound⟩ from u.o.2.grow C.1) C.2;clear C u f a1;generalize M.heap.size=bs at J ⊢;generalize M.alloc _=e2 at a J HY ⊢;refine Hold.go ?_;refine wpList_plain rfl (fun K hK=>?_);refine Py _ _ 23 42 _ 64 rfl Tryz.underlying23 Pp rfl (by decide) Lk Ph w.heap.size rv _ T [⟨x.name,0,x.kind,d,c,x.terms,x.bound⟩] rfl a.o.orr rfl J.o (by have:=a3.o;simp;omega) (by have:=a3.o;simp;omega) a.o.g.size (by simp) ?_;intro f4 b0 g j Y;obtain⟨⟨S,q2⟩,q3⟩:=a.o.put X.o.1 X.o.2 g j Y HY.o D.o.1 ⟨D.o.2.1,D.o.2.2.1⟩;obtain⟨R,cr,F,-,-⟩:=g.read.parts;obtain⟨ln,a5⟩:∃ n,(T ++ ([⟨x.name,0,x.kind,d,c,x.terms,x.bound⟩]:List RowM)).length=n:=⟨_,rfl⟩
    rw[a5] at F;subst F;obtain⟨f2,e4,a7,-,-⟩:=a.o.orr.read.parts;obtain⟨e9,a6⟩:∃ n,T.length=n:=⟨_,rfl⟩
    rw[a6] at a7;subst a7;have a0:=Z q3;clear g j Y q3 a5 a6;refine hK _ _ ?_;clear hK K;go_wp2_with fail;clear S q2;generalize b0.setCell _ _=e3 at a0 ⊢;refine⟨⟨k+1,_,_,by go_num,by omega,?_,a0.o⟩,by simp[RowKit.intOf];omega⟩;rw[List.map_append,HQ.o,List.take_add_one,c7.o];show _=p.rows.take k ++ [x.s]
    rw[List.map_cons,List.map_nil];have h:=b6.o;show p.rows.take k ++ [(⟨x.name,0,x.kind,x.terms,x.bound⟩:RowS)]=p.rows.take k ++ [(⟨x.name,x.group,x.kind,x.terms,x.bound⟩:RowS)]
    rw[h]
   ·have e0:(B == 0)=false:=by simpa using hg
    go_wp2_with fail;clear c0 c1 c2 c3 c4 e0 hg;generalize wr.heap.size=b7 at f m ⊢;generalize wr.alloc _=W6 at f a ⊢;refine(J3Q W6 B).mono ?_;rintro _ W7 ⟨_,rfl,g7,rfl⟩;obtain⟨a,f⟩:=Z2 (a.o.grow g7) (f.o.grow g7);have t3:=f.o.at 3 rfl;clear g7;go_wp2_with fail;clear t3;refine(Xa W7 x.tp x.terms.length x.tc x.terms (SlL.grow c8.o a.o.g) rfl c6.o).mono ?_;rintro _ t ⟨_,rfl,O,d,c,rfl,P⟩;have D:=Z (show(∀ b,rv.ownBlock=some b→(Value.slice d x.terms.length c).ownBlock≠some b)∧(Value.slice d x.terms.length c).ownBlock≠some b4∧(Value.slice d x.terms.length c).ownBlock≠some b5∧(Value.slice d x.terms.length c).ownBlock≠some b7 from by
     have l:=World.ownsRow.lt P;refine⟨fun b hb e=>?_,fun e=>?_,fun e=>?_,fun e=>?_⟩
     ·have g:=(l _ e).1;have j:=(World.ownsRow.lt a.o.orr b hb).2;omega
     ·have g:=(l _ e).1;have j:=a.o.t4.lt;omega
     ·have g:=(l _ e).1;have j:=a.o.t5.lt;omega
     ·have g:=(l _ e).1;have j:=f.o.lt;omega)
    obtain⟨a1,a,f,L⟩:=Z4 (OwnL.low P a.o.g.size) (a.o.grow O) (f.o.grow O) m.o.2.2.2.2;clear P O;have t0:=f.o.at 0 rfl;have t1:=f.o.at 1 rfl;have t2:=f.o.at 2 rfl;have t3:=f.o.at 3 rfl;have t4:=f.o.at 4 rfl;have f3:=Ja.f f.o 3;have u:=Z (show WoSt w (t.setCell ⟨b7,3,none⟩ (.slice d x.terms.length c)) bp b4 b5 _ _ _ pv cv p.vars rv T∧Lj (t.setCell ⟨b7,3,none⟩ (.slice d x.terms.length c)) w.heap.size ⟨x.name,B,x.kind,d,c,x.terms,x.bound⟩ from by
     have Q:=J5 t b7 3 (.slice d x.terms.length c);have s:=a.o;exact⟨⟨Gr.set s.g (by have:=m.o.2.2.2.1;omega) _,s.tp.upd Q m.o.1,s.t4.upd Q m.o.2.1,s.t5.upd Q m.o.2.2.1,s.ov.other L.o.2.1,s.orr.other L.o.1,fun y q=>OwnL.other (s.tt y q) (L.o.2.2 y q),s.ne,s.nv,s.nt⟩,OwnL.other a1.o D.o.2.2.2⟩)
    have S:=u.o.1.t5.at 1 rfl;have a4:¬ b5=b7:=m.o.2.2.1;have b2:¬ b7=b5:=fun e=>a4 e.symm;go_wp2_with (at_builtin;refine Hold.hold ?_);clear t0 t1 t2 t3 t4 f3 S a4 b2;have a8:(t.setCell ⟨b7,3,none⟩ (.slice d x.terms.length c)).heap.size=t.heap.size:=by simp[World.setCell]
    rw[← a8];clear a8;generalize t.setCell _ _=M at u ⊢;have C:=SlL.new (enc:=encRow) (sz:=5) M 42 Lk [⟨x.name,B,x.kind,d,c,x.terms,x.bound⟩] #[.string ⟨x.name.toArray⟩,.int .i64 B,.int .i64 x.kind,.slice d x.terms.length c,.int .i64 x.bound] 1 rfl rfl (by decide);obtain⟨a,HY,J⟩:=Z3 (u.o.1.grow C.1) (show Lj _ w.heap.size ⟨x.name,B,x.kind,d,c,x.terms,x.bound⟩ from u.o.2.grow C.1) C.2;clear C u f a1;generalize M.heap.size=bs at J ⊢;generalize M.alloc _=e2 at a J HY ⊢;refine Hold.go ?_;refine wpList_plain rfl (fun K hK=>?_);refine Py _ _ 23 42 _ 64 rfl Tryz.underlying23 Pp rfl (by decide) Lk Ph w.heap.size rv _ T [⟨x.name,B,x.kind,d,c,x.terms,x.bound⟩] rfl a.o.orr rfl J.o (by have:=a3.o;simp;omega) (by have:=a3.o;simp;omega) a.o.g.size (by simp) ?_;intro f4 b0 g j Y;obtain⟨⟨S,q2⟩,q3⟩:=a.o.put X.o.1 X.o.2 g j Y HY.o D.o.1 ⟨D.o.2.1,D.o.2.2.1⟩;obtain⟨R,cr,F,-,-⟩:=g.read.parts;obtain⟨ln,a5⟩:∃ n,(T ++ ([⟨x.name,B,x.kind,d,c,x.terms,x.bound⟩]:List RowM)).length=n:=⟨_,rfl⟩
    rw[a5] at F;subst F;obtain⟨f2,e4,a7,-,-⟩:=a.o.orr.read.parts;obtain⟨e9,a6⟩:∃ n,T.length=n:=⟨_,rfl⟩
    rw[a6] at a7;subst a7;have a0:=Z q3;clear g j Y q3 a5 a6;refine hK _ _ ?_;clear hK K;go_wp2_with fail;clear S q2;generalize b0.setCell _ _=e3 at a0 ⊢;refine⟨⟨k+1,_,_,by go_num,by omega,?_,a0.o⟩,by simp[RowKit.intOf];omega⟩;rw[List.map_append,HQ.o,List.take_add_one,c7.o];show _=p.rows.take k ++ [x.s]
    rw[List.map_cons,List.map_nil];have h:=b6.o;show p.rows.take k ++ [(⟨x.name,B,x.kind,x.terms,x.bound⟩:RowS)]=p.rows.take k ++ [(⟨x.name,x.group,x.kind,x.terms,x.bound⟩:RowS)]
    rw[h]
  ·obtain rfl:k=p.rows.length:=by omega
   have a:=Z a.o;obtain⟨R,cr,F,-,-⟩:=a.o.orr.read.parts;have d5:T.length=p.rows.length:=by have:=a3.o;omega
   rw[d5] at F;subst F;have y0:=a.o.t5.at 0 rfl;have y1:=a.o.t5.at 1 rfl;have d0:=a.o.t4.at 0 rfl;have d1:=a.o.t4.at 1 rfl;have f0:=Ja.f a.o.t4 0;have f1:=Ja.f a.o.t4 1;have e8:¬ b4=b5:=X.o.2.2;have f7:¬ b5=b4:=fun e=>e8 e.symm;have hf:=fill2 (.slice pv p.vars.length cv) (.slice R p.rows.length cr) a.o.t4 a.o.g d7.o.1;have E:=Z (And.intro hf.1 (And.intro hf.2.1 (And.intro (OwnL.fill a.o.ov a.o.nv.1 (.slice pv p.vars.length cv) (.slice R p.rows.length cr)) (And.intro (OwnL.fill a.o.orr (fun e=>(a.o.ne b4 e).2.1 rfl) (.slice pv p.vars.length cv) (.slice R p.rows.length cr)) (show ∀ y ∈ T,Lj _ w.heap.size y from fun y q=>OwnL.fill (a.o.tt y q) (a.o.nt y q).1 (.slice pv p.vars.length cv) (.slice R p.rows.length cr))))));clear hf d5;go_wp2_with fail;clear y0 y1 d0 d1 f0 f1;try rw[Exit.noGoto_ret]
   generalize (wr.setCell _ _).setCell _ _=W5 at E ⊢;have z0:=E.o.2.1.at 0 rfl;have z1:=E.o.2.1.at 1 rfl;refine bodyPost_ret (by simp[results,Tryz.results97,go_sem,z0,z1];rfl) rfl ?_;exact⟨_,rfl,E.o.1,pv,cv,R,cr,T,rfl,E.o.2.2.1,E.o.2.2.2.1,by rw[HQ.o,List.take_length],E.o.2.2.2.2,fun k hk=>⟨(a.o.ne k hk).2.2.2.1,(a.o.ne k hk).2.2.2.2⟩⟩
theorem Vj (w:World)(u:Value)(c:CutS)(L:Nat)(x:Lc w u c L):Calls Tryz.prog 99 #[u] w (Ret w fun r _=>Jb (Ko c) r):=by
 obtain⟨C,d,B,pv,f,cv,rfl,-,-,rfl,rfl⟩:=x.parts;clear x;have y:=Z (Z1 (c:=c));obtain⟨k,p⟩:∃ z,c.kind=z:=⟨_,rfl⟩
 obtain⟨g,v⟩:∃ z,c.row=z:=⟨_,rfl⟩
 obtain⟨f,t⟩:∃ z,c.vars.length=z:=⟨_,rfl⟩
 obtain⟨d,q⟩:∃ z,c.mult.length=z:=⟨_,rfl⟩
 have b:=Z (show Ko c↔k=0∧g=0∧d=0∧f=0 from by rw[y.o,p,v,t,q]);rw[p,v,t,q];have a:=Z (show Gr w (w.alloc (.cells #[.int .i64 k,.slice C d B,.int .i64 g,.slice pv f cv] 45)) from(Gr.refl _).alloc _);clear p v t q;by_cases j:k=0
 ·subst j;by_cases l:d=0
  ·subst l;by_cases m:g=0
   ·subst m;by_cases o:f=0
    ·subst o;have H:=Z (show Ko c from b.o.2 ⟨rfl,rfl,rfl,rfl⟩);go_enter Tryz.func99,Tryz.ntmps99;go_wp2_with fail;go_ret;exact⟨_,rfl,a.o,Jb.yes H.o⟩
    ·have i:((f:Int) == 0)=false:=by simpa using o
     have H:=Z (show ¬ Ko c from fun h=>o (b.o.1 h).2.2.2);go_enter Tryz.func99,Tryz.ntmps99;go_wp2_with fail;go_ret;exact⟨_,rfl,a.o,Jb.no H.o⟩
   ·have i:(g == 0)=false:=by simpa using m
    have H:=Z (show ¬ Ko c from fun h=>m (b.o.1 h).2.1);go_enter Tryz.func99,Tryz.ntmps99;go_wp2_with fail;go_ret;exact⟨_,rfl,a.o,Jb.no H.o⟩
  ·have i:((d:Int) == 0)=false:=by simpa using l
   have H:=Z (show ¬ Ko c from fun h=>l (b.o.1 h).2.2.1);go_enter Tryz.func99,Tryz.ntmps99;go_wp2_with fail;go_ret;exact⟨_,rfl,a.o,Jb.no H.o⟩
 ·have i:(k == 0)=false:=by simpa using j
  have H:=Z (show ¬ Ko c from fun h=>j (b.o.1 h).1);go_enter Tryz.func99,Tryz.ntmps99;go_wp2_with fail;go_ret;exact⟨_,rfl,a.o,Jb.no H.o⟩
def J4 (n:Jk)(a b c d:Bool):Prop:=(a=true∨n.mult.length=0)∧(b=true∨n.var=0)∧(c=true∨n.pos=0)∧(d=true∨Ko n.cut)
abbrev nodeA (x:Jr):Array Value:=#[.int .i64 x.kind,.slice x.mp x.mn x.mc,.int .i64 x.var,.int .i64 x.pos,.int .i64 x.ck,.slice x.cp x.cn x.cc,.int .i64 x.row,.slice x.vp x.vn x.vc]
theorem J6z (w:World)(b:Nat)(x:Jr)(n:Jk)(L:Nat)(a:Ja w b (nodeA x))(c:Kl w x n L):
  Calls Tryz.prog 98 #[.bool true,.bool false,.bool false,.bool false,.pointer (some ⟨b,0,none⟩)] w (Ret w fun r _=>Jb (J4 n true false false false) r):=by
 obtain⟨C,j⟩:∃ z,n.mult.length=z:=⟨_,rfl⟩
 obtain⟨p,m⟩:∃ z,n.var=z:=⟨_,rfl⟩
 obtain⟨o,l⟩:∃ z,n.pos=z:=⟨_,rfl⟩
 obtain⟨D,u,t,q⟩:=Z4 j m l c.cut;unfold Jr.cutV at q;have E:w.cell? ⟨b,1,none⟩=some (.slice x.mp C x.mc):=by rw[← j,← c.mn];exact a.at 1 rfl
 have F:w.cell? ⟨b,2,none⟩=some (.int .i64 p):=by rw[← m,← c.var];exact a.at 2 rfl
 have I:w.cell? ⟨b,3,none⟩=some (.int .i64 o):=by rw[← l,← c.pos];exact a.at 3 rfl
 have J:=a.at 4 rfl;have K:=a.at 5 rfl;have M:=a.at 6 rfl;have N:=a.at 7 rfl;clear a c j m l;by_cases f:p=0
 ·subst f;by_cases g:o=0
  ·subst g;have y:=Z (show(Ko n.cut→J4 n true false false false) from fun k=>⟨.inl rfl,.inr u.o,.inr t.o,.inr k⟩);go_enter Tryz.func98,Tryz.ntmps98;go_wp2_with fail;refine(Vj w _ n.cut L q.o).mono ?_;rintro _ P ⟨O,rfl,v,i⟩;have G:=Z v;clear v;rcases i.cases with⟨rfl,d⟩|⟨rfl,d⟩
   ·have H:=Z (show J4 n true false false false from y.o d);clear i d;go_wp2_with fail;go_ret;exact⟨_,rfl,G.o,Jb.yes H.o⟩
   ·have H:=Z (show ¬ J4 n true false false false from fun h=>h.2.2.2.elim (fun h=>by cases h) d);clear i d;go_wp2_with fail;go_ret;exact⟨_,rfl,G.o,Jb.no H.o⟩
  ·have B:(o == 0)=false:=by simpa using g
   have H:=Z (show ¬ J4 n true false false false from fun h=>g (by rw[← t.o];exact h.2.2.1.resolve_left (by decide)));go_enter Tryz.func98,Tryz.ntmps98;go_wp2_with fail;go_ret;exact⟨_,rfl,Gr.refl _,Jb.no H.o⟩
 ·have B:(p == 0)=false:=by simpa using f
  have H:=Z (show ¬ J4 n true false false false from fun h=>f (by rw[← u.o];exact h.2.1.resolve_left (by decide)));go_enter Tryz.func98,Tryz.ntmps98;go_wp2_with fail;go_ret;exact⟨_,rfl,Gr.refl _,Jb.no H.o⟩
theorem J6A (w:World)(b:Nat)(x:Jr)(n:Jk)(L:Nat)(a:Ja w b (nodeA x))(c:Kl w x n L):
  Calls Tryz.prog 98 #[.bool false,.bool true,.bool false,.bool false,.pointer (some ⟨b,0,none⟩)] w (Ret w fun r _=>Jb (J4 n false true false false) r):=by
 obtain⟨o,j⟩:∃ z,n.mult.length=z:=⟨_,rfl⟩
 obtain⟨C,m⟩:∃ z,n.var=z:=⟨_,rfl⟩
 obtain⟨p,l⟩:∃ z,n.pos=z:=⟨_,rfl⟩
 obtain⟨t,D,u,q⟩:=Z4 j m l c.cut;unfold Jr.cutV at q;have E:w.cell? ⟨b,1,none⟩=some (.slice x.mp o x.mc):=by rw[← j,← c.mn];exact a.at 1 rfl
 have F:w.cell? ⟨b,2,none⟩=some (.int .i64 C):=by rw[← m,← c.var];exact a.at 2 rfl
 have I:w.cell? ⟨b,3,none⟩=some (.int .i64 p):=by rw[← l,← c.pos];exact a.at 3 rfl
 have J:=a.at 4 rfl;have K:=a.at 5 rfl;have M:=a.at 6 rfl;have N:=a.at 7 rfl;clear a c j m l;by_cases f:o=0
 ·subst f;by_cases g:p=0
  ·subst g;have y:=Z (show(Ko n.cut→J4 n false true false false) from fun k=>⟨.inr t.o,.inl rfl,.inr u.o,.inr k⟩);go_enter Tryz.func98,Tryz.ntmps98;go_wp2_with fail;refine(Vj w _ n.cut L q.o).mono ?_;rintro _ P ⟨O,rfl,v,i⟩;have G:=Z v;clear v;rcases i.cases with⟨rfl,d⟩|⟨rfl,d⟩
   ·have H:=Z (show J4 n false true false false from y.o d);clear i d;go_wp2_with fail;go_ret;exact⟨_,rfl,G.o,Jb.yes H.o⟩
   ·have H:=Z (show ¬ J4 n false true false false from fun h=>h.2.2.2.elim (fun h=>by cases h) d);clear i d;go_wp2_with fail;go_ret;exact⟨_,rfl,G.o,Jb.no H.o⟩
  ·have B:(p == 0)=false:=by simpa using g
   have H:=Z (show ¬ J4 n false true false false from fun h=>g (by rw[← u.o];exact h.2.2.1.resolve_left (by decide)));go_enter Tryz.func98,Tryz.ntmps98;go_wp2_with fail;go_ret;exact⟨_,rfl,Gr.refl _,Jb.no H.o⟩
 ·have B:((o:Int) == 0)=false:=by simpa using f
  have H:=Z (show ¬ J4 n false true false false from fun h=>f (by rw[← t.o];exact h.1.resolve_left (by decide)));go_enter Tryz.func98,Tryz.ntmps98;go_wp2_with fail;go_ret;exact⟨_,rfl,Gr.refl _,Jb.no H.o⟩
theorem J6B (w:World)(b:Nat)(x:Jr)(n:Jk)(L:Nat)(a:Ja w b (nodeA x))(c:Kl w x n L):
  Calls Tryz.prog 98 #[.bool false,.bool true,.bool true,.bool false,.pointer (some ⟨b,0,none⟩)] w (Ret w fun r _=>Jb (J4 n false true true false) r):=by
 obtain⟨m,i⟩:∃ z,n.mult.length=z:=⟨_,rfl⟩
 obtain⟨v,l⟩:∃ z,n.var=z:=⟨_,rfl⟩
 obtain⟨u,j⟩:∃ z,n.pos=z:=⟨_,rfl⟩
 obtain⟨p,B,y,o⟩:=Z4 i l j c.cut;unfold Jr.cutV at o;have D:w.cell? ⟨b,1,none⟩=some (.slice x.mp m x.mc):=by rw[← i,← c.mn];exact a.at 1 rfl
 have E:w.cell? ⟨b,2,none⟩=some (.int .i64 v):=by rw[← l,← c.var];exact a.at 2 rfl
 have F:w.cell? ⟨b,3,none⟩=some (.int .i64 u):=by rw[← j,← c.pos];exact a.at 3 rfl
 have I:=a.at 4 rfl;have J:=a.at 5 rfl;have K:=a.at 6 rfl;have M:=a.at 7 rfl;clear a c i l j;by_cases f:m=0
 ·subst f;have t:=Z (show(Ko n.cut→J4 n false true true false) from fun k=>⟨.inr p.o,.inl rfl,.inl rfl,.inr k⟩);go_enter Tryz.func98,Tryz.ntmps98;go_wp2_with fail;refine(Vj w _ n.cut L o.o).mono ?_;rintro _ O ⟨N,rfl,q,g⟩;have G:=Z q;clear q;rcases g.cases with⟨rfl,d⟩|⟨rfl,d⟩
  ·have H:=Z (show J4 n false true true false from t.o d);clear g d;go_wp2_with fail;go_ret;exact⟨_,rfl,G.o,Jb.yes H.o⟩
  ·have H:=Z (show ¬ J4 n false true true false from fun h=>h.2.2.2.elim (fun h=>by cases h) d);clear g d;go_wp2_with fail;go_ret;exact⟨_,rfl,G.o,Jb.no H.o⟩
 ·have C:((m:Int) == 0)=false:=by simpa using f
  have H:=Z (show ¬ J4 n false true true false from fun h=>f (by rw[← p.o];exact h.1.resolve_left (by decide)));go_enter Tryz.func98,Tryz.ntmps98;go_wp2_with fail;go_ret;exact⟨_,rfl,Gr.refl _,Jb.no H.o⟩
theorem J6C (w:World)(b:Nat)(x:Jr)(n:Jk)(L:Nat)(a:Ja w b (nodeA x))(c:Kl w x n L):
  Calls Tryz.prog 98 #[.bool false,.bool false,.bool false,.bool true,.pointer (some ⟨b,0,none⟩)] w (Ret w fun r _=>Jb (J4 n false false false true) r):=by
 obtain⟨l,i⟩:∃ z,n.mult.length=z:=⟨_,rfl⟩
 obtain⟨o,k⟩:∃ z,n.var=z:=⟨_,rfl⟩
 obtain⟨m,j⟩:∃ z,n.pos=z:=⟨_,rfl⟩
 obtain⟨p,t,q,v⟩:=Z4 i k j c.cut;unfold Jr.cutV at v;have y:w.cell? ⟨b,1,none⟩=some (.slice x.mp l x.mc):=by rw[← i,← c.mn];exact a.at 1 rfl
 have B:w.cell? ⟨b,2,none⟩=some (.int .i64 o):=by rw[← k,← c.var];exact a.at 2 rfl
 have C:w.cell? ⟨b,3,none⟩=some (.int .i64 m):=by rw[← j,← c.pos];exact a.at 3 rfl
 have D:=a.at 4 rfl;have E:=a.at 5 rfl;have F:=a.at 6 rfl;have G:=a.at 7 rfl;clear a c i k j;by_cases d:l=0
 ·subst d;by_cases f:o=0
  ·subst f;by_cases g:m=0
   ·subst g;have H:=Z (show J4 n false false false true from⟨.inr p.o,.inr t.o,.inr q.o,.inl rfl⟩);go_enter Tryz.func98,Tryz.ntmps98;go_wp2_with fail;go_ret;exact⟨_,rfl,Gr.refl _,Jb.yes H.o⟩
   ·have u:(m == 0)=false:=by simpa using g
    have H:=Z (show ¬ J4 n false false false true from fun h=>g (by rw[← q.o];exact h.2.2.1.resolve_left (by decide)));go_enter Tryz.func98,Tryz.ntmps98;go_wp2_with fail;go_ret;exact⟨_,rfl,Gr.refl _,Jb.no H.o⟩
  ·have u:(o == 0)=false:=by simpa using f
   have H:=Z (show ¬ J4 n false false false true from fun h=>f (by rw[← t.o];exact h.2.1.resolve_left (by decide)));go_enter Tryz.func98,Tryz.ntmps98;go_wp2_with fail;go_ret;exact⟨_,rfl,Gr.refl _,Jb.no H.o⟩
 ·have u:((l:Int) == 0)=false:=by simpa using d
  have H:=Z (show ¬ J4 n false false false true from fun h=>d (by rw[← p.o];exact h.1.resolve_left (by decide)));go_enter Tryz.func98,Tryz.ntmps98;go_wp2_with fail;go_ret;exact⟨_,rfl,Gr.refl _,Jb.no H.o⟩
theorem J5a {n:Jk}(h:n.kind=0):Kg n↔J4 n true false false false:=by
 rw[Lp];unfold J4;constructor
 ·rintro(a|a|a|a)
  ·exact⟨.inl rfl,.inr a.2.2.1,.inr a.2.2.2,.inr a.2.1⟩
  all_goals omega
 ·rintro⟨_,b,c,d⟩;exact .inl ⟨h,d.resolve_left (by decide),b.resolve_left (by decide),c.resolve_left (by decide)⟩
theorem J5b {n:Jk}(h:n.kind=1):Kg n↔J4 n false true false false:=by
 rw[Lp];unfold J4;constructor
 ·rintro(a|a|a|a)
  ·omega
  ·exact⟨.inr (by rw[a.2.2.2];rfl),.inl rfl,.inr a.2.2.1,.inr a.2.1⟩
  all_goals omega
 ·rintro⟨a,b,c,d⟩;exact .inr (.inl ⟨h,d.resolve_left (by decide),c.resolve_left (by decide),List.eq_nil_of_length_eq_zero (a.resolve_left (by decide))⟩)
theorem J5c {n:Jk}(h:n.kind=2):Kg n↔J4 n false true true false:=by
 rw[Lp];unfold J4;constructor
 ·rintro(a|a|a|a)
  ·omega
  ·omega
  ·exact⟨.inr (by rw[a.2.2];rfl),.inl rfl,.inl rfl,.inr a.2.1⟩
  ·omega
 ·rintro⟨a,b,c,d⟩;exact .inr (.inr (.inl ⟨h,d.resolve_left (by decide),List.eq_nil_of_length_eq_zero (a.resolve_left (by decide))⟩))
theorem J5d {n:Jk}(h:n.kind=3):Kg n↔J4 n false false false true:=by
 rw[Lp];unfold J4;constructor
 ·rintro(a|a|a|a)
  ·omega
  ·omega
  ·omega
  ·exact⟨.inr (by rw[a.2.2.2];rfl),.inr a.2.1,.inr a.2.2.1,.inl rfl⟩
 ·rintro⟨a,b,c,d⟩;exact .inr (.inr (.inr ⟨h,b.resolve_left (by decide),c.resolve_left (by decide),List.eq_nil_of_length_eq_zero (a.resolve_left (by decide))⟩))
theorem Um {n:Jk}(b:n.kind≠0)(c:n.kind≠1)(d:n.kind≠2)(f:n.kind≠3):¬ Kg n:=by
 rw[Lp];rintro(a|a|a|a)
 ·exact b a.1
 ·exact c a.1
 ·exact d a.1
 ·exact f a.1
theorem Nc (w:World)(x:Jr)(n:Jk)(L:Nat)(K:Kl w x n L):
  Calls Tryz.prog 51 #[.agg (nodeA x)] w (Ret w fun r _=>Jb (Kg n) r):=by
 have B:=Ja.new w (nodeA x) 47;have a:=Z (show Gr w (w.alloc (.cells (nodeA x) 47))∧Ja _ w.heap.size (nodeA x)∧Kl _ x n L from⟨B.1,B.2,K.grow B.1⟩);have f:=K.kind;clear B;obtain⟨h,z,y,v,D,C,p,t,q,o,row,I,F,E⟩:=x;dsimp only at f;clear K;unfold nodeA at a ⊢;dsimp only at a ⊢;by_cases j:h=0
 ·subst j;have k:n.kind=0:=f.symm;clear f;have i:=Z k;go_enter Tryz.func51,Tryz.ntmps51;go_wp2_with fail;generalize w.heap.size=b at a ⊢;generalize w.alloc _=W at a ⊢;refine(J6z W b ⟨0,z,y,v,D,C,p,t,q,o,row,I,F,E⟩ n L a.o.2.1 a.o.2.2).mono ?_;rintro _ M ⟨l,rfl,g,c⟩;obtain⟨G,d⟩:=Z2 (a.o.1.trans g) (show Jb (Kg n) l from c.iff (J5a i.o).symm);clear g c;rcases d.o.cases with⟨rfl,_⟩|⟨rfl,_⟩
  ·go_wp2_with fail;try rw[Exit.noGoto_ret]
   go_ret;exact⟨_,rfl,G.o,d.o⟩
  ·go_wp2_with fail;try rw[Exit.noGoto_ret]
   go_ret;exact⟨_,rfl,G.o,d.o⟩
 have J:(h == 0)=false:=by simpa using j
 by_cases m:h=1
 ·subst m;have k:n.kind=1:=f.symm;clear f J j;have i:=Z k;go_enter Tryz.func51,Tryz.ntmps51;go_wp2_with fail;generalize w.heap.size=b at a ⊢;generalize w.alloc _=W at a ⊢;refine(J6A W b ⟨1,z,y,v,D,C,p,t,q,o,row,I,F,E⟩ n L a.o.2.1 a.o.2.2).mono ?_;rintro _ M ⟨l,rfl,g,c⟩;obtain⟨G,d⟩:=Z2 (a.o.1.trans g) (show Jb (Kg n) l from c.iff (J5b i.o).symm);clear g c;rcases d.o.cases with⟨rfl,_⟩|⟨rfl,_⟩
  ·go_wp2_with fail;try rw[Exit.noGoto_ret]
   go_ret;exact⟨_,rfl,G.o,d.o⟩
  ·go_wp2_with fail;try rw[Exit.noGoto_ret]
   go_ret;exact⟨_,rfl,G.o,d.o⟩
 have N:(h == 1)=false:=by simpa using m
 by_cases c:h=2
 ·subst c;have k:n.kind=2:=f.symm;clear f J j N m;have i:=Z k;go_enter Tryz.func51,Tryz.ntmps51;go_wp2_with fail;generalize w.heap.size=b at a ⊢;generalize w.alloc _=W at a ⊢;refine(J6B W b ⟨2,z,y,v,D,C,p,t,q,o,row,I,F,E⟩ n L a.o.2.1 a.o.2.2).mono ?_;rintro _ M ⟨l,rfl,g,c⟩;obtain⟨G,d⟩:=Z2 (a.o.1.trans g) (show Jb (Kg n) l from c.iff (J5c i.o).symm);clear g c;rcases d.o.cases with⟨rfl,_⟩|⟨rfl,_⟩
  ·go_wp2_with fail;try rw[Exit.noGoto_ret]
   go_ret;exact⟨_,rfl,G.o,d.o⟩
  ·go_wp2_with fail;try rw[Exit.noGoto_ret]
   go_ret;exact⟨_,rfl,G.o,d.o⟩
 have O:(h == 2)=false:=by simpa using c
 by_cases u:h=3
 ·subst u;have k:n.kind=3:=f.symm;clear f J j N m O c;have i:=Z k;go_enter Tryz.func51,Tryz.ntmps51;go_wp2_with fail;generalize w.heap.size=b at a ⊢;generalize w.alloc _=W at a ⊢;refine(J6C W b ⟨3,z,y,v,D,C,p,t,q,o,row,I,F,E⟩ n L a.o.2.1 a.o.2.2).mono ?_;rintro _ M ⟨l,rfl,g,c⟩;obtain⟨G,d⟩:=Z2 (a.o.1.trans g) (show Jb (Kg n) l from c.iff (J5d i.o).symm);clear g c;rcases d.o.cases with⟨rfl,_⟩|⟨rfl,_⟩
  ·go_wp2_with fail;try rw[Exit.noGoto_ret]
   go_ret;exact⟨_,rfl,G.o,d.o⟩
  ·go_wp2_with fail;try rw[Exit.noGoto_ret]
   go_ret;exact⟨_,rfl,G.o,d.o⟩
 have P:(h == 3)=false:=by simpa using u
 have H:=Z (show ¬ Kg n from Um (by rw[← f];exact j) (by rw[← f];exact m) (by rw[← f];exact c) (by rw[← f];exact u));clear f j m c u;go_enter Tryz.func51,Tryz.ntmps51;go_wp2_with fail;go_ret;exact⟨_,rfl,a.o.1,Jb.no H.o⟩
end Prf
end Go.Proofs.YtcjgimlcefhhmaaGreatDoor
