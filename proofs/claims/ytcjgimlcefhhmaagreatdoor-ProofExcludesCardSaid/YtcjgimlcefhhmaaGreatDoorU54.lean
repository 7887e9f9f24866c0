/- Texts: SgF SgG SgH. -/
import Derived.Test.YtcjgimlcefhhmaaGreatDoorU30
import Derived.Test.YtcjgimlcefhhmaaGreatDoorU49
import Derived.Test.YtcjgimlcefhhmaaGreatDoorU52
set_option linter.unusedVariables false
set_option linter.unusedSimpArgs false
set_option maxRecDepth 100000
set_option maxHeartbeats 12800000
namespace Go.Proofs.YtcjgimlcefhhmaaGreatDoor
namespace Prf
open Go.RowKit Go.Lib
theorem J1w (P:Program)(t ty e:TypeId)(i:TypeInfo)(ht:P.underlying t=some (.slice e))(hi:P.info? e=some i)(w:World)(b:Nat)(q:Option Addr)(c:Nat):
  (Builtin.append_ #[t,t] ty #[.slice (some ⟨b,0,none⟩) 0 0,.slice q 0 c]).run P w = .ok (.slice (some ⟨b,0,none⟩) 0 0) w:=by
 cases q with
 | none=>simp[Builtin.append_,run_underlying ht,sizeOf,typeInfo,hi,Builtin.lenOf,run_firstCells_none,storeCells]
 | some a=>
  have hf:=run_firstCells_some (P:=P) w i.size 0 a 0 c [] (by simp) (fun j u h=>by simp at h)
  simp[Builtin.append_,run_underlying ht,sizeOf,typeInfo,hi,Builtin.lenOf,hf,storeCells]
section
variable {α:Type}{enc:α→List Value}{sz:Nat}
theorem J24 (t e ty:TypeId)(z:Value)(bytes:Nat)(ht:Tryz.prog.underlying t=some (.slice e))(hinfo:(Tryz.prog.info? e).map (fun i=>(i.zero,i.size,i.bytes))=some (some z,sz,bytes))(hzs:z.cells.size=sz)(hsz:0 < sz)(hby:bytes≤1000)
  (he:∀ x,(enc x).length=sz) (h1c:∀ x,∀ u ∈ enc x,u.oneCell'=true) (hu:∀ x,∀ u ∈ enc x,∀ k,u≠Value.int .u32 k) (hz:∀ n,∀ u ∈ Builtin.zeroCells z.cells n,∀ k,u≠Value.int .u32 k)
  (w:World) (base b:Nat) (vx:Value) (m:List α) (hown:OwnU w base e sz enc (.slice (some ⟨b,0,none⟩) 0 0) ([]:List α)) (hm:SlL w sz enc vx m) (hlen:m.length≤1000000) (hbase:base≤w.heap.size):
  ∃ v' w',(Builtin.append_ #[t,t] ty #[.slice (some ⟨b,0,none⟩) 0 0,vx]).run Tryz.prog w = .ok v' w'∧OwnU w' base e sz enc v' m∧w.grownBy w' (some b)∧Dk w w':=by
 obtain⟨i0,hi,hz0,hz1,hz2⟩:=info_parts hinfo
 have hmp:m=[]∨0 < m.length:=by cases m<;>simp
 rcases hmp with rfl|hpos
 ·obtain⟨hd,p,c,rfl,k1,k2,k3⟩:=hm
  exact⟨_,w,J1w _ t ty e i0 ht hi w b p c,hown,World.grownBy.refl w _,Dk.refl w⟩
 have hb1:m.length * bytes≤140737488355328:=Nat.le_trans (Nat.mul_le_mul_left _ hby) (by omega)
 obtain⟨v',w',hr,h1,h2,h3⟩:=Pe (ty:=ty) t e z bytes ht hinfo hzs hsz he h1c base _ vx [] m hown.1 hm (by simpa using hb1) (by simp;omega) hbase hpos
 refine⟨v',w',hr,⟨h1,fun g hg=>?_⟩,h2,Dk.grown h2 hown.2⟩
 obtain⟨hd,p,c,rfl,k1,k2,k3⟩:=hm
 rcases k3 with rfl|⟨b2,off,rfl,hc⟩
 ·omega
 have hnews:∀ j u,(m.flatMap enc)[j]?=some u→w.cell? ((⟨b2,off,none⟩:Addr).add j)=some u:=fun j u hu=>by rw[Na];exact hc j u hu
 have hml:(m.flatMap enc).length=m.length * i0.size:=by rw[hz1];exact Kv he m
 have hr2:=run_append_grow (P:=Tryz.prog) w t ty e i0 _ ht hi hz0 ⟨b,0,none⟩ 0 0 [] (by simp) (fun j u h=>by simp at h) ⟨b2,off,none⟩ m.length c _ hml hnews (by omega) (by omega) (growslice_fits (by omega) (by rw[hz2];simpa using hb1))
 have e1:=hr.symm.trans hr2
 injection e1 with e2 e3
 subst e2 e3
 obtain rfl:w.heap.size=g:=by simpa[Value.ownBlock] using hg
 refine⟨_,_,heap_alloc_new w.drew _,fun i z e=>?_⟩
 rcases Array.mem_append.1 (Array.mem_of_getElem? e) with h|h
 ·rcases Array.mem_append.1 h with h|h
  ·simp at h
  ·obtain⟨y,_,hy⟩:=List.mem_flatMap.1 (by simpa using h)
   exact hu y _ hy z rfl
 ·exact hz _ _ h z rfl
end
theorem Jy.copy {w:World}{base b:Nat}{vx:Value}{xs:List Rat}{L:Nat}(ty:TypeId)(h:Jy w base (.slice (some ⟨b,0,none⟩) 0 0) [] L)(hm:Kx w vx xs L)(hl:xs.length≤1000000)(hb:base≤w.heap.size):
  ∃ v' w',(Builtin.append_ #[33,33] ty #[.slice (some ⟨b,0,none⟩) 0 0,vx]).run Tryz.prog w = .ok v' w'∧Jy w' base v' xs L∧w.grownBy w' (some b):=by
 obtain⟨T,h1,h2,h3⟩:=h.ex
 obtain rfl:T=[]:=by simpa using h2
 obtain⟨U,k1,k2,k3⟩:=hm
 obtain⟨v',w',hr,j1,j2,j3⟩:=J24 33 68 ty _ 56 Tryz.underlying33 J0a rfl (by decide) (by decide) Ku Xe Xf J0b w base b vx U h1 k1 (by omega) hb
 exact⟨v',w',hr,⟨U,j1,k2,fun i t ht=>Pw (k3 i t ht) j3⟩,j2⟩
structure PtM where
 q:Option Addr
 n:Nat
 c:Nat
def encPt (x:PtM):List Value:=[.slice x.q x.n x.c]
theorem Qk (x:PtM):(encPt x).length=1:=rfl
theorem J2A:∀ x,∀ u ∈ encPt x,u.oneCell'=true:=fun x u hu=>by simp[encPt] at hu;subst hu;rfl
theorem J2B:∀ x,∀ u ∈ encPt x,∀ z,u≠Value.int .u32 z:=fun x u hu z=>by simp[encPt] at hu;subst hu;intro h;cases h
theorem J57:(Tryz.prog.info? 33).map (fun i=>(i.zero,i.size,i.bytes))=some (some (.slice none 0 0),1,24):=by kernel_rfl
theorem J59 (n:Nat):∀ u ∈ Builtin.zeroCells (Value.slice none 0 0).cells n,∀ z,u≠Value.int .u32 z:=fun u hu z=>by
 obtain⟨i,_,rfl⟩:=Array.mem_map.1 hu
 have h1:i % 1=0:=by omega
 simp[Value.cells,h1]
structure PtB (W:World)(V:List VarM)(m:Nat)(x:PtM):Prop where
 n:x.n=m
 ex:∃ xs X,PtAt W x.q x.n x.c xs X∧∀ j v,j < m→V[j]?=some v→v.lo≤X j∧X j≤v.up
theorem PtB.kept {W W':World}{row:Option Nat}{V:List VarM}{m:Nat}{x:PtM}(h:PtB W V m x)(hg:W.grownBy W' row)(hd:Dk W W')(hne:∀ a,x.q=some a→some a.block≠row):PtB W' V m x:=by
 obtain⟨xs,X,k1,k2⟩:=h.ex
 obtain⟨T,r1,r2,r3⟩:=k1.r
 exact⟨h.n,xs,X,⟨⟨T,SlL.grownA r1 hg hne,r2,fun i t ht=>Pw (r3 i t ht) hd⟩,k1.n,k1.x,k1.i⟩,k2⟩
theorem PtB.grow {W W':World}{V:List VarM}{m:Nat}{x:PtM}(h:PtB W V m x)(g:Gr W W'):PtB W' V m x:=by
 obtain⟨xs,X,k1,k2⟩:=h.ex
 exact⟨h.n,xs,X,k1.grow g,k2⟩
structure PtsR (W:World)(v:Value)(V:List VarM)(m:Nat)(T:List PtM):Prop where
 s:SlL W 1 encPt v T
 b:∀ x ∈ T,PtB W V m x
theorem PtsR.grow {W W':World}{v:Value}{V:List VarM}{m:Nat}{T:List PtM}(h:PtsR W v V m T)(g:Gr W W'):PtsR W' v V m T:=⟨h.s.grow g,fun x hx=>(h.b x hx).grow g⟩
structure PtsO (W:World)(n0:Nat)(v:Value)(V:List VarM)(m:Nat)(T:List PtM):Prop where
 own:OwnU W n0 33 1 encPt v T
 each:∀ x ∈ T,PtB W V m x∧∀ a,x.q=some a→a.block < W.heap.size∧v.ownBlock≠some a.block
theorem PtsO.read {W:World}{n0:Nat}{v:Value}{V:List VarM}{m:Nat}{T:List PtM}(h:PtsO W n0 v V m T):PtsR W v V m T:=⟨h.own.1.read,fun x hx=>(h.each x hx).1⟩
theorem PtsO.grow {W W':World}{n0:Nat}{v:Value}{V:List VarM}{m:Nat}{T:List PtM}(h:PtsO W n0 v V m T)(g:Gr W W'):PtsO W' n0 v V m T:=
 ⟨h.own.grow g,fun x hx=>⟨(h.each x hx).1.grow g,fun a ha=>⟨Nat.lt_of_lt_of_le ((h.each x hx).2 a ha).1 g.size,((h.each x hx).2 a ha).2⟩⟩⟩
theorem PtsO.made (W:World)(b:Nat)(hb:W.heap.size=b)(V:List VarM)(m:Nat):Gr W (W.alloc (.cells #[] 33))∧PtsO (W.alloc (.cells #[] 33)) W.heap.size (.slice (some ⟨b,0,none⟩) 0 0) V m []:=by
 subst hb
 exact⟨(Gr.refl W).alloc _,⟨OwnL.made0 W W.heap.size _ (Nat.le_refl _),fun g hg=>by
  obtain rfl:W.heap.size=g:=by simpa[Value.ownBlock] using hg
  exact⟨#[],_,heap_alloc_new W _,fun i z h=>by simp at h⟩⟩,fun x hx=>by cases hx⟩
theorem PtsO.gr {W w w':World}{v:Value}{V:List VarM}{m:Nat}{T:List PtM}(h:PtsO w W.heap.size v V m T)(g:Gr W w)(hg:w.grownBy w' v.ownBlock):Gr W w':=OwnL.gr h.own.1 g hg
theorem PtsO.parts {w:World}{n0:Nat}{v:Value}{V:List VarM}{m n:Nat}{T:List PtM}(h:PtsO w n0 v V m T)(hn:T.length=n):∃ p c,v = .slice p n c:=by
 obtain⟨p,c,e,_,_⟩:=h.own.1.read.parts
 rw[hn] at e
 exact⟨p,c,e⟩
theorem Jy.own {w:World}{base:Nat}{v:Value}{xs:List Rat}{L:Nat}(h:Jy w base v xs L){q:Option Addr}{n c:Nat}(hv:v = .slice q n c)(hn:0 < n):∀ a,q=some a→base≤a.block∧a.block < w.heap.size:=by
 subst hv
 obtain⟨T,h1,h2,h3⟩:=h.ex
 intro a ha
 subst ha
 have hb:(Value.slice (some a) n c).ownBlock=some a.block:=rfl
 exact World.ownsRow.lt h1.1 _ hb
theorem PtsO.push {W:World}{n0:Nat}{v vx:Value}{V:List VarM}{m:Nat}{T:List PtM}{x:PtM}(ty:TypeId)(h:PtsO W n0 v V m T)(hx:PtB W V m x)(hxa:∀ a,x.q=some a→a.block < W.heap.size∧v.ownBlock≠some a.block)(hm:SlL W 1 encPt vx [x])(hlen:T.length≤1000)(hb:n0≤W.heap.size):
  ∃ v' w',(Builtin.append_ #[31,31] ty #[v,vx]).run Tryz.prog W = .ok v' w'∧PtsO w' n0 v' V m (T ++ [x])∧W.grownBy w' v.ownBlock:=by
 obtain⟨v',w',hr,h1,h2,h3,h4⟩:=Ru 31 33 ty _ 24 Tryz.underlying31 J57 rfl (by decide) (by decide) Qk J2A J2B J59 W n0 v vx T x h.own hm (by omega) hb
 have far:∀ a:Addr,a.block < W.heap.size→v.ownBlock≠some a.block→v'.ownBlock≠some a.block:=fun a h5 h6 h7=>by
  rcases h4 with h8|h8
  ·exact h6 (h8.symm.trans h7)
  ·rw[h8] at h7
   have:=Option.some.inj h7
   omega
 refine⟨v',w',hr,⟨h1,fun y hy=>?_⟩,h2⟩
 rcases List.mem_append.1 hy with hy|hy
 ·obtain⟨k1,k2⟩:=h.each y hy
  exact⟨k1.kept h2 h3 (fun a ha e=>(k2 a ha).2 e.symm),fun a ha=>⟨Nat.lt_of_lt_of_le (k2 a ha).1 h2.size,far a (k2 a ha).1 (k2 a ha).2⟩⟩
 ·obtain rfl:=List.mem_singleton.1 hy
  exact⟨hx.kept h2 h3 (fun a ha e=>(hxa a ha).2 e.symm),fun a ha=>⟨Nat.lt_of_lt_of_le (hxa a ha).1 h2.size,far a (hxa a ha).1 (hxa a ha).2⟩⟩
theorem J5a (W:World)(b:Nat)(hb:W.heap.size=b)(V:List VarM):
  Gr W ((W.alloc (.cells #[] 68)).alloc (.cells #[.slice (some ⟨b,0,none⟩) 0 0] 33))∧PtsR ((W.alloc (.cells #[] 68)).alloc (.cells #[.slice (some ⟨b,0,none⟩) 0 0] 33)) (.slice (some ⟨b+1,0,none⟩) 1 1) V 0 [⟨some ⟨b,0,none⟩,0,0⟩]:=by
 have h1:=Jy.made W 4 b hb
 have h2:=SlL.new (enc:=encPt) (sz:=1) (W.alloc (.cells #[] 68)) 33 Qk [⟨some ⟨b,0,none⟩,0,0⟩] #[.slice (some ⟨b,0,none⟩) 0 0] 1 rfl rfl (by decide)
 rw[World.size_alloc,hb] at h2
 refine⟨h1.1.trans h2.1,h2.2,fun x hx=>?_⟩
 obtain rfl:=List.mem_singleton.1 hx
 exact⟨rfl,[],fun _=>0,⟨h1.2.read.grow h2.1,rfl,fun i=>by simp[atQ],fun i=>by unfold I64;omega⟩,fun j v hj=>by omega⟩
theorem Z8 {w:World}{p:Option Addr}{n c:Nat}{l:List PtM}(h:SlL w 1 encPt (.slice p n c) l)(hn:l.length=n){k:Nat}(hk:k < n):∃ b o x,p=some ⟨b,o,none⟩∧l[k]?=some x∧∀ w',Gr w w'→w'.cell? ⟨b,o+k,none⟩=some (.slice x.q x.n x.c):=by
 obtain⟨b,o,x,hp,hx,hc⟩:=h.at1 Qk hn hk
 exact⟨b,o,x,hp,hx,fun w' g=>hc _ rfl w' g⟩
theorem PtB.more {W:World}{V:List VarM}{m:Nat}{xs:List Rat}{X:Nat→Int}{n:Int}{v:VarM}{q:Option Addr}{c:Nat}(hl:xs.length=m)(hx:∀ i,atQ xs i=((X i:Int):Rat))(hi:∀ i,I64 (X i))(hb:∀ j v,j < m→V[j]?=some v→v.lo≤X j∧X j≤v.up)
  (hv:V[m]?=some v) (h1:v.lo≤n) (h2:n≤v.up) (hn:I64 n) (hr:Kx W (.slice q (m+1) c) (xs ++ [(n:Rat)]) 4):PtB W V (m+1) ⟨q,m+1,c⟩:=by
 refine⟨rfl,xs ++ [(n:Rat)],fun i=>if i=m then n else X i,⟨hr,by simp[hl],fun i=>?_,fun i=>?_⟩,fun j u hj hu=>?_⟩
 ·by_cases h:i=m
  ·subst h
   rw[if_pos rfl]
   unfold atQ
   rw[List.getElem?_append_right (by omega),show i - xs.length=0 by omega]
   rfl
  ·rw[if_neg h,← hx i]
   unfold atQ
   by_cases h3:i < m
   ·rw[List.getElem?_append_left (by omega)]
   ·rw[List.getElem?_eq_none (by simp;omega),List.getElem?_eq_none (by omega)]
 ·split
  ·exact hn
  ·exact hi i
 ·by_cases h:j=m
  ·subst h
   rw[hv] at hu
   cases hu
   dsimp only
   rw[if_pos rfl]
   exact⟨h1,h2⟩
  ·dsimp only
   rw[if_neg h]
   exact hb j u (by omega) hu
theorem J5D (w:World)(v:Value)(p:Prg)(hp:Jv w v p)(hk:Jr p)(hw:Whole p)(hn:p.vars.length≤1000):
  Calls Tryz.prog 11 #[v,.int .i64 200] w (Ret w fun r w'=>∃ q d T,r = .slice q T.length d∧T.length≤200∧PtsR w' r p.vars p.vars.length T):=by
 have HK:=ξ (And.intro hk hw)
 clear hk hw
 obtain⟨va,vc,vb,vd,rfl,hv,hr⟩:=hp
 have HV:=ξ hv
 have HR:=ξ hr
 obtain⟨_,_,_,hvb1,hvb2⟩:=SlL.parts hv
 obtain⟨_,_,_,hrb1,hrb2⟩:=hr.parts
 clear hv hr
 have B0:=Ja.new w #[.slice va p.vars.length vc,.slice vb p.rows.length vd] 25
 have HB:=ξ B0
 unfold prgV
 clear B0
 have HWS:=ξ (World.size_alloc w (.cells #[.slice va p.vars.length vc,.slice vb p.rows.length vd] 25))
 go_enter Tryz.func11,Tryz.ntmps11
 go_wp2_with fail
 generalize w.heap.size=bp at HB HWS ⊢
 generalize w.alloc _=W at HB HWS ⊢
 have G:=ξ HB.out.1
 have TP:=ξ HB.out.2
 clear HB
 have HM:=ξ (J5a W (bp+1) HWS.out p.vars)
 generalize (W.alloc _).alloc _=W2 at HM ⊢
 go_loopw [5,6] (fun u i w9=>∃ (k:Nat) (W1:World) (T:List PtM),W1=w9∧i = .int .i64 (k:Int)∧k≤p.vars.length∧Gr W W1∧T.length≤200∧(∃ q c,u = .slice q T.length c)∧PtsR W1 u p.vars k T) (fun _ i _=>p.vars.length - (RowKit.intOf i).toNat)
 case atStart=>exact⟨0,_,_,rfl,rfl,Nat.zero_le _,HM.out.1,by show 1≤200;decide,⟨_,_,rfl⟩,HM.out.2⟩
 case round=>
  clear HM
  obtain⟨k,W1,T,rfl,rfl,hk,hg,hT,⟨q1,c1,rfl⟩,ho⟩:=hrel
  have GL:=ξ hg
  have HO:=ξ ho
  have HT:=ξ hT
  clear hg ho hT
  have z0:=(TP.out.grow GL.out).at 0 rfl
  by_cases hlt:k < p.vars.length
  ·have hlt':(k:Int) < (p.vars.length:Int):=by omega
   have hk1:IntKind.i64.wrap ((k:Int)+1)=(k:Int)+1:=by rw[IntKind.wrap_i64];omega
   obtain⟨b,o,x,rfl,hx,hc⟩:=Mn HV.out rfl hlt
   have hvo:=HK.out.1.2.2.1 x (List.mem_of_getElem? hx)
   have hop:=HK.out.2 x (List.mem_of_getElem? hx)
   obtain⟨c0,c1',c2,c3,c4⟩:=hc _ (G.out.trans GL.out)
   obtain⟨lo,up,op,ig,cost⟩:=x
   dsimp only at hop c0 c1' c2 c3 c4
   obtain⟨rfl,rfl⟩:=hop
   have HX:=ξ hx
   have HIN:=ξ (show In lo∧In up from⟨hvo.1,hvo.2.1⟩)
   have B:=Ja.new W1 #[.int .i64 lo,.int .i64 up,.bool false,.bool true,.int .i64 cost] 62
   have HB:=ξ B
   have e2:=B.2.at 2 rfl
   have e3:=B.2.at 3 rfl
   clear hx hc hvo B
   go_wp2_with fail
   clear z0 c0 c1' c2 c3 c4 e2 e3
   have HS2:=ξ (World.size_alloc W1 (.cells #[.int .i64 lo,.int .i64 up,.bool false,.bool true,.int .i64 cost] 62))
   generalize W1.heap.size=b7 at HB HS2 ⊢
   generalize W1.alloc _=Wv at HB HS2 ⊢
   have HO:=ξ (HO.out.grow HB.out.1)
   have GV:=ξ (GL.out.trans HB.out.1)
   have TV:=ξ HB.out.2
   clear HB
   have HM:=ξ (PtsO.made Wv (b7+1) HS2.out p.vars (k+1))
   generalize Wv.alloc _=W2 at HM ⊢
   go_loopw [8,9] (fun u i w9=>∃ (m:Nat) (W3:World) (T3:List PtM),W3=w9∧i = .int .i64 (m:Int)∧m≤T.length∧Gr Wv W3∧T3.length≤200∧(∃ q c,u = .slice q T3.length c)∧PtsO W3 Wv.heap.size u p.vars (k+1) T3) (fun _ i _=>T.length - (RowKit.intOf i).toNat)
   case atStart=>exact⟨0,_,[],rfl,rfl,Nat.zero_le _,HM.out.1,Nat.zero_le _,⟨_,_,rfl⟩,HM.out.2⟩
   case round=>
    clear HM
    obtain⟨m,W3,T3,rfl,rfl,hm,hg,hT,⟨q3,d3,rfl⟩,ho⟩:=hrel
    have G3:=ξ hg
    have HP:=ξ ho
    have HT3:=ξ hT
    clear hg ho hT
    by_cases hlm:m < T.length
    ·have hlm':(m:Int) < (T.length:Int):=by omega
     have hm1:IntKind.i64.wrap ((m:Int)+1)=(m:Int)+1:=by rw[IntKind.wrap_i64];have:=HT.out;omega
     have e0:=(TV.out.grow G3.out).at 0 rfl
     go_wp2_with fail
     clear e0
     go_loopw [8,10] (fun u i w9=>∃ (n:Int) (W4:World) (T4:List PtM),W4=w9∧i = .int .i64 n∧lo≤n∧(n≤up+1∨n=lo)∧Gr Wv W4∧T4.length≤200∧(∃ q c,u = .slice q T4.length c)∧PtsO W4 Wv.heap.size u p.vars (k+1) T4) (fun _ i _=>(up+1 - RowKit.intOf i).toNat)
     case atStart=>exact⟨lo,_,T3,rfl,rfl,Int.le_refl _,.inr rfl,G3.out,HT3.out,⟨_,_,rfl⟩,HP.out⟩
     case round=>
      clear HP HT3 G3
      obtain⟨n,W4,T4,rfl,rfl,hn1,hn2,hg,hT,⟨q4,d4,rfl⟩,ho⟩:=hrel
      have G4:=ξ hg
      have HP:=ξ ho
      have HT4:=ξ hT
      clear hg ho hT
      have e1:=(TV.out.grow G4.out).at 1 rfl
      by_cases hlu:n≤up
      ·have hnI:I64 n:=by have:=HIN.out;unfold I64 In at *;omega
       by_cases h200:200≤T4.length
       ·have h200':(200:Int)≤(T4.length:Int):=by omega
        go_wp2_with fail
        try rw[Exit.noGoto_ret]
        go_ret
        exact⟨_,rfl,G.out.trans (GV.out.trans G4.out),none,0,[],rfl,Nat.zero_le _,⟨SlL.nil _,fun x hx=>by cases hx⟩⟩
       ·have h200':(T4.length:Int) < 200:=by omega
        have hnw:IntKind.i64.wrap (n+1)=n+1:=by rw[IntKind.wrap_i64];have:=HIN.out;unfold In at this;omega
        obtain⟨bo,oo,⟨yq,yn,yc⟩,rfl,hy,hc⟩:=Z8 HO.out.s rfl hlm
        obtain⟨hyn,xs,X,hpt,hbd⟩:=HO.out.b _ (List.mem_of_getElem? hy)
        dsimp only at hyn hpt
        subst hyn
        have R0:=Jy.made W4 4 W4.heap.size rfl
        have y0:=hc _ (G4.out.trans R0.1)
        have HR0:=ξ R0
        have HPT:=ξ (hpt.grow (G4.out.trans R0.1))
        have HBD:=ξ hbd
        dsimp only at y0
        clear hy hc hpt hbd R0
        go_wp2_with (at_builtin;refine Hold.hold ?_)
        clear y0 e1
        generalize W4.alloc _=W5 at HR0 HPT ⊢
        refine Hold.go ?_
        refine wpList_plain rfl (fun K hK=>?_)
        obtain⟨v6,W6,hr6,ho6,hg6⟩:=Jy.copy 33 HR0.out.2 HPT.out.r (by have:=HPT.out.n;omega) HR0.out.1.size
        have G6:=ξ (Jy.gr HR0.out.2 HR0.out.1 hg6)
        obtain⟨p6,c6,hv6⟩:=ho6.parts HPT.out.n
        subst hv6
        have HO6:=ξ ho6
        clear ho6 hg6
        refine P8 _ _ _ rfl _ _ _ W6 rfl rfl hr6 ?_
        clear hr6
        refine hK _ _ ?_
        clear hK K
        go_wp2_with fail
        refine(Lj W6 n hnI.1 hnI.2).mono ?_
        rintro _ w7 ⟨r,rfl,g7,hr⟩
        obtain⟨u,rfl,hu⟩:=Ts (hr.v (Lr hnI))
        have HO7:=ξ (HO6.out.grow g7)
        have HU:=ξ hu
        have G7:=ξ (G6.out.trans g7)
        clear hr hu g7 HO6 G6
        unfold RatM.v
        go_wp2_with (at_builtin;refine Hold.hold ?_)
        have BS:=SlL.new (enc:=encRat) (sz:=3) w7 68 Ku [u] #[.bool u.n,.slice u.p u.k u.c,.slice u.q u.m u.e] 1 rfl rfl (by decide)
        have HO8:=ξ (HO7.out.grow BS.1)
        have HU8:=ξ (HU.out.grow BS.1)
        have G8:=ξ (G7.out.trans BS.1)
        have HBS:=ξ BS.2
        clear BS HO7 HU G7
        generalize w7.heap.size=bs at HBS ⊢
        generalize w7.alloc _=W8 at HO8 HU8 G8 HBS ⊢
        refine Hold.go ?_
        refine wpList_plain rfl (fun K hK=>?_)
        obtain⟨v9,W9,hr9,ho9,hg9,-⟩:=Jy.push 33 HO8.out HBS.out HU8.out (by have:=HPT.out.n;omega) G8.out.size
        have G9:=ξ (Jy.gr HO8.out G8.out hg9)
        obtain⟨p9,c9,hv9⟩:=ho9.parts (n:=yn+1) (by have:=HPT.out.n;simp;omega)
        subst hv9
        have HO9:=ξ ho9
        clear ho9 hg9 HO8 HU8 HBS G8
        refine P8 _ _ _ rfl _ _ _ W9 rfl rfl hr9 ?_
        clear hr9
        refine hK _ _ ?_
        clear hK K
        go_wp2_with (at_builtin;refine Hold.hold ?_)
        have BT:=SlL.new (enc:=encPt) (sz:=1) W9 33 Qk [⟨p9,yn+1,c9⟩] #[.slice p9 (yn+1) c9] 1 rfl rfl (by decide)
        have HPB:=ξ (show PtB _ p.vars (yn+1) ⟨p9,yn+1,c9⟩ from PtB.more HPT.out.n HPT.out.x HPT.out.i HBD.out HX.out hn1 hlu hnI (HO9.out.grow BT.1).read)
        have HWN:=ξ (HO9.out.own rfl (Nat.succ_pos _))
        have HPX:=ξ (HP.out.grow (G9.out.trans BT.1))
        have G10:=ξ (G9.out.trans BT.1)
        have HBT:=ξ BT.2
        have HSZ:=ξ BT.1.size
        clear BT HO9
        generalize W9.heap.size=bt at HBT HWN HSZ ⊢
        generalize W9.alloc _=W10 at HPB HPX G10 HBT HSZ ⊢
        refine Hold.go ?_
        refine wpList_plain rfl (fun K hK=>?_)
        obtain⟨v11,W11,hr11,ho11,hg11⟩:=PtsO.push 31 HPX.out HPB.out (fun a ha=>by
         have h1:=HWN.out a ha
         refine⟨Nat.lt_of_lt_of_le h1.2 HSZ.out,fun e=>?_⟩
         have h2:=(World.ownsRow.lt HP.out.own.1 _ e).2
         omega) HBT.out (by omega) (Nat.le_trans G4.out.size G10.out.size)
        have G11:=ξ (PtsO.gr HPX.out (G4.out.trans G10.out) hg11)
        obtain⟨p11,c11,hv11⟩:=ho11.parts (n:=T4.length+1) (by simp)
        subst hv11
        have HO11:=ξ ho11
        clear ho11 hg11 HPX HPB HBT HSZ HWN
        refine P8 _ _ _ rfl _ _ _ W11 rfl rfl hr11 ?_
        clear hr11
        refine hK _ _ ?_
        clear hK K
        go_wp2_with fail
        exact⟨⟨n+1,_,T4 ++ [⟨p9,yn+1,c9⟩],rfl,by go_num,by omega,.inl (by omega),G11.out,by simp;omega,⟨_,_,by rw[List.length_append];rfl⟩,HO11.out⟩,by simp[RowKit.intOf];omega⟩
      ·have hlu':up < n:=by omega
       go_wp2_with fail
       clear e1
       exact⟨⟨m+1,_,T4,rfl,by go_num,by omega,G4.out,HT4.out,⟨_,_,rfl⟩,HP.out⟩,by simp[RowKit.intOf];omega⟩
    ·obtain rfl:m=T.length:=by omega
     go_wp2_with fail
     exact⟨⟨k+1,_,T3,rfl,by go_num,by omega,GV.out.trans G3.out,HT3.out,⟨_,_,rfl⟩,HP.out.read⟩,by simp[RowKit.intOf];omega⟩
  ·obtain rfl:k=p.vars.length:=by omega
   go_wp2_with fail
   go_ret
   exact⟨_,rfl,G.out.trans GL.out,q1,c1,T,rfl,HT.out,HO.out⟩
theorem J3K (w:World)(a b q:Option Addr)(c d nv nr nn nc:Nat)(V:List VarM)(T:List RowM)(l:List Jm)(hv:K3 w (.slice a nv c) V)(hr:SlL w 5 encRow (.slice b nr d) T)(hl:SlL w 8 encNode (.slice q nn nc) l)(hnv:V.length=nv)(hnr:T.length=nr)(hnl:l.length=nn)
  (hvi:∀ y ∈ V,VarI y) (hx:∀ y ∈ T,RowR w y) (hlr:∀ x ∈ l,Mt w x) (hb:nv≤35184372088832) (hb2:nr≤35184372088832) (hb3:nn≤35184372088832) (hnm:∀ y ∈ T,y.name.length≤9223372036854775807)
  (mz:Int) (hmz:w.cell? ⟨2,0,none⟩=some (.int .i64 mz)) (htab:Tab w):
  Calls Tryz.prog 4 #[.agg #[.slice a nv c,.slice b nr d],.slice q nn nc] w (Ret w fun r w'=>r = .bool true):=by
 have HAW:=ξ (fun(W:World) (g:Gr w W)=>Ym W mz (g.cell hmz) (htab.grow g))
 clear hmz htab
 have HB:=ξ (Ja.new w #[.slice a nv c,.slice b nr d] 25)
 have HSM:=ξ (fun(W:World) (g:Gr w W)=>Xv W a b q c d nv nr nn nc V T l (SlL.grow hv g) (SlL.grow hr g) (SlL.grow hl g) hnv hnr hnl hvi (fun y hy=>by obtain⟨k1,k2,k3⟩:=hx y hy;exact⟨SlL.grow k1 g,k2,k3⟩) (fun x hx=>by
  have h:=hlr x hx
  refine⟨h.mult.grow g,h.cmul.grow g,?_,h.kind,h.var,h.pos,h.ck,h.row⟩
  obtain⟨V,e3,r3,b3,z3⟩:=h.vars
  exact⟨V,e3,SlL.grow r3 g,b3,z3⟩) hb hb2 hb3 hnm)
 clear hv hr hl hnv hnr hnl hvi hx hlr hnm
 go_enter Tryz.func4,Tryz.ntmps4
 go_wp2_with fail
 generalize w.heap.size=bp at HB ⊢
 generalize w.alloc _=W at HB ⊢
 have G:=ξ HB.out.1
 refine(HAW.out W G.out).mono ?_
 rintro _ w1 ⟨_,rfl,g1,rfl⟩
 have HP:=ξ (HB.out.2.grow g1)
 have G:=ξ (G.out.trans g1)
 have p0:=HP.out.at 0 rfl
 have p1:=HP.out.at 1 rfl
 clear g1 HB
 go_wp2_with fail
 clear p0 p1
 refine(HSM.out w1 G.out).mono ?_
 rintro _ w2 ⟨r2,rfl,g2,h2⟩
 have G:=ξ (G.out.trans g2)
 have HP:=ξ (HP.out.grow g2)
 rcases h2.cases with⟨rfl,N,hN,hs⟩|rfl
 rotate_left
 ·clear h2 g2
  go_wp2_with fail
  refine(HAW.out _ G.out).mono ?_
  rintro _ wz ⟨_,rfl,gz,rfl⟩
  have G:=ξ (G.out.trans gz)
  clear gz
  go_wp2_with fail
  go_ret
  exact⟨_,rfl,G.out,rfl⟩
 have HN:=ξ hN
 have HS:=ξ hs
 clear h2 g2 hN hs
 have GS:=ξ (Gr.refl w2)
 have p0:=HP.out.at 0 rfl
 have p1:=HP.out.at 1 rfl
 go_wp2_with fail
 clear p0 p1
 refine(Rd w2 _ ⟨V,T.map RowM.s⟩ N q nn nc HN.out.symm (HS.out.prg.grow GS.out) (HS.out.nodes.grow GS.out) HS.out.i HS.out.nl (Nat.le_trans HS.out.n (by decide)) (by have:=HS.out.m;have:=HS.out.k;omega) HS.out.few).mono ?_
 rintro _ w4 ⟨r4,rfl,g4,h4⟩
 have G:=ξ (G.out.trans g4)
 have HP:=ξ (HP.out.grow g4)
 have GS:=ξ (GS.out.trans g4)
 rcases h4 with⟨-,rfl⟩|⟨k4,k5,rfl⟩|⟨-,-,rfl⟩
 ·clear g4
  go_wp2_with fail
  go_ret
  exact⟨_,rfl,G.out,rfl⟩
 rotate_left
 ·clear g4
  go_wp2_with fail
  go_ret
  exact⟨_,rfl,G.out,rfl⟩
 have HPR:=ξ (And.intro k4 k5)
 clear g4 k4 k5
 have p0:=HP.out.at 0 rfl
 have p1:=HP.out.at 1 rfl
 go_wp2_with fail
 clear p0 p1
 refine(J5D w4 _ ⟨V,T.map RowM.s⟩ (HS.out.prg.grow GS.out) HPR.out.1.1 HPR.out.1.2 (by have:=HS.out.n;omega)).mono ?_
 rintro _ w5 ⟨_,rfl,g5,q5,d5,TP,rfl,ht5,h5⟩
 have G:=ξ (G.out.trans g5)
 have HP:=ξ (HP.out.grow g5)
 have GS:=ξ (GS.out.trans g5)
 have HPT:=ξ h5
 clear h5 g5
 go_wp2_with fail
 go_loopw [23] (fun i w9=>∃ (k:Nat) (W1:World),W1=w9∧i = .int .i64 (k:Int)∧k≤TP.length∧Gr w5 W1) (fun i _=>TP.length - (RowKit.intOf i).toNat)
 case atStart=>exact⟨0,_,rfl,rfl,Nat.zero_le _,Gr.refl _⟩
 case round=>
  obtain⟨k,W1,rfl,rfl,hk,hg⟩:=hrel
  have GL:=ξ hg
  clear hg
  by_cases hlt:k < TP.length
  ·have hlt':(k:Int) < (TP.length:Int):=by omega
   have hk1:IntKind.i64.wrap ((k:Int)+1)=(k:Int)+1:=by rw[IntKind.wrap_i64];omega
   obtain⟨bo,oo,⟨yq,yn,yc⟩,rfl,hy,hc⟩:=Z8 HPT.out.s rfl hlt
   obtain⟨hyn,xs,X,hpt,hbd⟩:=HPT.out.b _ (List.mem_of_getElem? hy)
   dsimp only at hyn hpt hc
   have HPX:=ξ (hpt.grow GL.out)
   have HIB:=ξ (show InB V X from fun j v hv=>hbd j v (List.getElem?_eq_some_iff.1 hv).1 hv)
   have y0:=hc _ GL.out
   have p0:=(HP.out.grow GL.out).at 0 rfl
   have p1:=(HP.out.grow GL.out).at 1 rfl
   clear hy hc hpt hbd hyn
   go_wp2_with fail
   clear y0 p0 p1
   refine(J0g W1 _ ⟨V,T.map RowM.s⟩ yq yn yc xs X (HS.out.prg.grow (GS.out.trans GL.out)) HPR.out.1.1 HPX.out (by have:=HS.out.n;omega) (by have:=HS.out.m;omega) (J0q HPR.out.1.1 (by have:=HS.out.n;omega))).mono ?_
   rintro _ w6 ⟨_,rfl,g6,q6,m6,d6,rfl,h6'⟩
   have hpos:0 < m6:=J0z HPR.out.1.1 HPR.out.2 HIB.out h6'
   have hpos':¬ (m6:Int)=0:=by omega
   have GL:=ξ (GL.out.trans g6)
   clear h6' g6
   go_wp2_with fail
   exact⟨⟨k+1,_,rfl,by go_num,by omega,GL.out⟩,by simp[RowKit.intOf];omega⟩
  ·obtain rfl:k=TP.length:=by omega
   go_wp2_with fail
   go_ret
   exact⟨_,rfl,G.out.trans GL.out,rfl⟩
end Prf
end Go.Proofs.YtcjgimlcefhhmaaGreatDoor
