/- Texts: PsC SgA PsD PsE. -/
import Derived.Test.YtcjgimlcefhhmaaGreatDoorU1
import Derived.Test.YtcjgimlcefhhmaaGreatDoorU18
import Derived.Test.YtcjgimlcefhhmaaGreatDoorU26
set_option linter.unusedVariables false
set_option linter.unusedSimpArgs false
set_option maxRecDepth 100000
set_option maxHeartbeats 12800000
namespace Go.Proofs.YtcjgimlcefhhmaaGreatDoor
namespace Prf
open Go.RowKit Go.Lib
def J6 (w:World)(b:Nat)(s:Rat):Prop:=∃ t:RatM,Jk w b (.bool t.n) (.slice t.p t.k t.c) (.slice t.q t.m t.e)∧RatC w t.v s
theorem J6.grow {w w':World}{b:Nat}{s:Rat}(h:J6 w b s)(g:Gr w w'):J6 w' b s:=by
 obtain⟨t,h1,h2⟩:=h
 exact⟨t,h1.grow g,h2.grow g⟩
theorem J6.upd {w w':World}{b b':Nat}{s:Rat}(h:J6 w b s)(hb:Ki w b')(hu:Upd b' w w')(hne:b≠b'):J6 w' b s:=by
 obtain⟨t,h1,h2⟩:=h
 exact⟨t,h1.upd hu hne,h2.upd hb hu⟩
theorem J6.noInt {w:World}{b:Nat}{s:Rat}(h:J6 w b s):Ki w b:=by
 obtain⟨t,h1,h2⟩:=h
 exact h1.noInt
theorem J6.lt {w:World}{b:Nat}{s:Rat}(h:J6 w b s):b < w.heap.size:=by
 obtain⟨t,h1,h2⟩:=h
 exact h1.lt
theorem Jo.lt {w:World}{b n:Nat}{a:Nat→Rat}{L:Nat}(h:Jo w b n a L):b < w.heap.size:=by
 obtain⟨T,h1,_⟩:=h
 exact h1.lt
theorem J6.put {w:World}{b:Nat}{s s':Rat}{t:RatM}(h:J6 w b s)(ht:RatC w t.v s'):J6 (set3 w b (.bool t.n) (.slice t.p t.k t.c) (.slice t.q t.m t.e)) b s':=by
 have hn:=h.noInt
 obtain⟨u,h1,_⟩:=h
 exact⟨t,h1.set _ _ _,ht.upd hn (upd3 w b _ _ _)⟩
theorem Pv {w:World}{v:Value}{s:Rat}(h:RatC w v s):∃ t:RatM,v=t.v∧RatC w t.v s:=by
 obtain⟨n,p,k,c,q,m,e,rfl⟩:=RatC.agg h
 exact⟨⟨n,p,k,c,q,m,e⟩,rfl,h⟩
structure Mo (w W:World)(bp b5 bo b7:Nat)(u0 u1:Value)(n:Nat)(a:Nat→Rat)(s:Rat):Prop where
 g:Gr w W
 tp:Ja W bp #[u0,u1]
 t5:Jk W b5 (.bool false) (.slice none 0 0) (.slice none 0 0)
 ro:Jo W bo n a 80
 t7:J6 W b7 s
theorem Mo.grow {w W W':World}{bp b5 bo b7:Nat}{u0 u1:Value}{n:Nat}{a:Nat→Rat}{s:Rat}(h:Mo w W bp b5 bo b7 u0 u1 n a s)(g:Gr W W'):Mo w W' bp b5 bo b7 u0 u1 n a s:=
 ⟨h.g.trans g,h.tp.grow g,h.t5.grow g,h.ro.grow g,h.t7.grow g⟩
theorem J6W (w:World):RatC w zeroRat.v 0:=by
 unfold RatC
 have e1:decide ((0:Rat).num < 0)=false:=by decide
 have e2:digs (0:Rat).num.natAbs=[]:=by decide +kernel
 have e3:dd (0:Rat).den=[]:=by decide +kernel
 rw[e1,e2,e3]
 exact⟨none,0,0,none,0,0,rfl,NatL.nil w,NatL.nil w⟩
structure U0 (w:World)(bp b5 bo b7:Nat):Prop where
 o:w.heap.size≤bo
 b:w.heap.size≤b7
 po:bp≠bo
 p7:bp≠b7
 o5:b5≠bo
 o57:b5≠b7
 o7:b7≠bo
 c:w.heap.size≤b5
theorem Qq {w W:World}(g:Gr w W){b:Nat}(hb:w.heap.size≤b)(k:Nat)(t:RatM):Gr w (setRat W b k t):=by
 unfold setRat
 exact Gr.set (Gr.set (Gr.set g (by omega) _) (by omega) _) (by omega) _
theorem Ko {w W:World}(g:Gr w W){b:Nat}(hb:w.heap.size≤b)(x y z:Value):Gr w (set3 W b x y z):=by
 unfold set3
 exact Gr.set (Gr.set (Gr.set g (by omega) _) (by omega) _) (by omega) _
theorem Mo.putO {w W:World}{bp b5 bo b7:Nat}{u0 u1:Value}{n:Nat}{a a':Nat→Rat}{s:Rat}(h:Mo w W bp b5 bo b7 u0 u1 n a s)(hn:U0 w bp b5 bo b7){k:Nat}(hk:k < n){t:RatM}(ht:RatV W t.v (a' k) 80)(e:∀ i,i < n→i≠k→a i=a' i):
  Mo w (setRat W bo k t) bp b5 bo b7 u0 u1 n a' s:=
 have hu:=Oy W bo k t
 have hni:=h.ro.noInt
 ⟨Qq h.g hn.o k t,h.tp.upd hu hn.po,h.t5.upd hu hn.o5,h.ro.set hk ht e,h.t7.upd hni hu hn.o7⟩
theorem Mo.putB {w W:World}{bp b5 bo b7:Nat}{u0 u1:Value}{n:Nat}{a:Nat→Rat}{s s':Rat}(h:Mo w W bp b5 bo b7 u0 u1 n a s)(hn:U0 w bp b5 bo b7){t:RatM}(ht:RatC W t.v s'):
  Mo w (set3 W b7 (.bool t.n) (.slice t.p t.k t.c) (.slice t.q t.m t.e)) bp b5 bo b7 u0 u1 n a s':=
 have hu:=upd3 W b7 (.bool t.n) (.slice t.p t.k t.c) (.slice t.q t.m t.e)
 have hni:=h.t7.noInt
 ⟨Ko h.g hn.b _ _ _,h.tp.upd hu hn.p7,h.t5.upd hu hn.o57,h.ro.upd hni hu hn.o7.symm,h.t7.put ht⟩
theorem X8:(Tryz.prog.info? 68).map (fun i=>(i.zero,i.size,i.bytes))=some (some (.agg #[.bool false,.slice none 0 0,.slice none 0 0]),3,56):=by kernel_rfl
theorem J3U (n:Nat):madeCells (Value.agg #[.bool false,.slice none 0 0,.slice none 0 0]).cells (n * 3)=((List.replicate n zeroRat).flatMap encRat).toArray:=by
 apply Array.ext'
 refine List.ext_getElem? fun m=>?_
 by_cases hm:m < n * 3
 ·have h1:m=m / 3 * 3+m % 3:=by omega
  have h2:=N5 Ku (List.replicate n zeroRat) (m / 3) zeroRat (m % 3) (by rw[List.getElem?_replicate,if_pos (by omega)]) (by omega)
  rw[← h1] at h2
  rw[List.toList_toArray,h2]
  have h3:m % 3=0∨m % 3=1∨m % 3=2:=by omega
  simp only[madeCells,Value.cells]
  rcases h3 with h|h|h<;>simp[h,hm,encRat,zeroRat,Value.cells]
 ·rw[List.getElem?_eq_none (by simp[madeCells];omega),List.getElem?_eq_none (by simp[Kv Ku];omega)]
section
variable {ops:Array Oper}{rest:List Oper}{o:Oper}{a:Act}{Q:Exit→Act→World→Prop}{w:World}
theorem Rk (hgd:o.guard=none)(x y:Operand)(t:TypeId)(ho:o.op = .makeSlice t x y)(ht:Tryz.prog.underlying t=some (.slice 68))(n:Nat)(e:Int)(hx:a.eval x = .int .i64 e)(hy:a.eval y = .int .i64 e)(he:e=n)
  (hn:n≤1000000) (h:∀ w',Jo w' w.heap.size n (fun _=>0) 80→Gr w w'→wpList Tryz.prog ops Q rest (a.put o.dst (.slice (some ⟨w.heap.size,0,none⟩) n n)) w'):wpList Tryz.prog ops Q (o :: rest) a w:=by
 subst he
 obtain⟨i0,hi,hz0,hz1,hz2⟩:=info_parts X8
 refine wpList_plain hgd (fun K hK=>?_)
 have hr:=run_make (P:=Tryz.prog) w t 68 i0 (.agg #[.bool false,.slice none 0 0,.slice none 0 0]) ht hi hz0 .i64 .i64 n n (by omega) (by omega) (by rw[hz2];omega) (by omega)
 unfold Oper.wp execOp
 simp only[ho,hx,hy,Sem.run_bind,Sem.run_pure,Result.andThen_ok,hr,Oper.upon,Int.toNat_natCast]
 refine hK _ _ (h _ ?_ ((Gr.refl w).alloc _))
 refine Jo.zero 80 ⟨_,heap_alloc_new w _⟩ ?_
 rw[hz1,J3U]
end
theorem J22 {p:Prg}{y:List Rat}{i:Nat}{r:RowS}(h:p.rows[i]?=some r)(j:Nat):sumQ (cA p y j) (i+1)=sumQ (cA p y j) i+(rowCoef (r.terms.take r.terms.length) j:Rat) * atQ y i:=by
 rw[Kq,List.take_length]
 unfold cA
 simp only[h]
theorem Ow {l:List Jg}{k:Nat}{t:Jg}(h:l[k]?=some t)(j:Nat):rowCoef (l.take (k+1)) j=rowCoef (l.take k) j+if t.v=(j:Int) then t.c else 0:=by
 have hk:=(List.getElem?_eq_some_iff.1 h).1
 rw[List.take_succ_eq_append_getElem hk]
 have e:l[k]=t:=(List.getElem?_eq_some_iff.1 h).2
 rw[e]
 unfold rowCoef
 simp
structure Og (w W:World)(bp b5 b7:Nat)(u0 u1:Value)(s:Rat):Prop where
 g:Gr w W
 tp:Ja W bp #[u0,u1]
 t5:Jk W b5 (.bool false) (.slice none 0 0) (.slice none 0 0)
 t7:J6 W b7 s
theorem Og.grow {w W W':World}{bp b5 b7:Nat}{u0 u1:Value}{s:Rat}(h:Og w W bp b5 b7 u0 u1 s)(g:Gr W W'):Og w W' bp b5 b7 u0 u1 s:=
 ⟨h.g.trans g,h.tp.grow g,h.t5.grow g,h.t7.grow g⟩
theorem Og.putB {w W:World}{bp b5 b7:Nat}{u0 u1:Value}{s s':Rat}(h:Og w W bp b5 b7 u0 u1 s)(hn:w.heap.size≤b5∧w.heap.size≤b7∧bp≠b7∧b5≠b7){t:RatM}(ht:RatC W t.v s'):
  Og w (set3 W b7 (.bool t.n) (.slice t.p t.k t.c) (.slice t.q t.m t.e)) bp b5 b7 u0 u1 s':=
 have hu:=upd3 W b7 (.bool t.n) (.slice t.p t.k t.c) (.slice t.q t.m t.e)
 ⟨Ko h.g hn.2.1 _ _ _,h.tp.upd hu hn.2.2.1,h.t5.upd hu hn.2.2.2,h.t7.put ht⟩
theorem J2t {l:List Jg}{k:Nat}{t:Jg}(X:Nat→Int)(h:l[k]?=some t):dotZ (l.take (k+1)) X=dotZ (l.take k) X+t.c * X t.v.toNat:=by
 obtain⟨hk,rfl⟩:=List.getElem?_eq_some_iff.1 h
 unfold dotZ
 rw[List.take_succ_eq_append_getElem hk,List.map_append,List.sum_append]
 simp
theorem Y2 {c x:Int}(hc:In c)(hx:I64 x):(c * x).natAbs≤10141204801825835211973625643008:=by
 rw[Int.natAbs_mul]
 have h1:c.natAbs≤1099511627776:=by obtain⟨a,b⟩:=hc;omega
 have h2:x.natAbs≤9223372036854775808:=by obtain⟨a,b⟩:=hx;omega
 exact Nat.le_trans (Nat.mul_le_mul h1 h2) (by decide)
theorem V9 {X:Nat→Int}(hX:∀ i,I64 (X i)):∀ l:List Jg,(∀ t ∈ l,In t.c)→(dotZ l X).natAbs≤l.length * 10141204801825835211973625643008
 | [],_=>by simp[dotZ]
 | t :: l,h=>by
  have h1:=V9 hX l (fun u hu=>h u (List.mem_cons_of_mem _ hu))
  have h2:=Y2 (h t (List.mem_cons_self ..)) (hX t.v.toNat)
  have e:dotZ (t :: l) X=t.c * X t.v.toNat+dotZ l X:=by simp[dotZ]
  rw[e]
  have:=Int.natAbs_add_le (t.c * X t.v.toNat) (dotZ l X)
  simp only[List.length_cons]
  omega
theorem Uj {z:Int}(h:z.natAbs≤10141204801825835211973625643008000000):Sz 4 (z:Rat):=Nq (Kf (by
 have e:BB ^ 4=340282366920938463463374607431768211456:=by decide
 rw[e];omega)) (by decide)
theorem Xa {X:Nat→Int}(hX:∀ i,I64 (X i)){l:List Jg}(h:∀ t ∈ l,In t.c)(hl:l.length≤1000):Sz 4 ((dotZ l X:Int):Rat):=by
 have:=V9 hX l h
 exact Uj (by omega)
structure Mr (w W:World)(b4 b5:Nat)(s:Rat):Prop where
 g:Gr w W
 t4:Jk W b4 (.bool false) (.slice none 0 0) (.slice none 0 0)
 t5:J6 W b5 s
theorem Mr.grow {w W W':World}{b4 b5:Nat}{s:Rat}(h:Mr w W b4 b5 s)(g:Gr W W'):Mr w W' b4 b5 s:=⟨h.g.trans g,h.t4.grow g,h.t5.grow g⟩
theorem Mr.put {w W:World}{b4 b5:Nat}{s s':Rat}(h:Mr w W b4 b5 s)(hn:w.heap.size≤b4∧w.heap.size≤b5∧b4≠b5){t:RatM}(ht:RatC W t.v s'):
  Mr w (set3 W b5 (.bool t.n) (.slice t.p t.k t.c) (.slice t.q t.m t.e)) b4 b5 s':=
 have hu:=upd3 W b5 (.bool t.n) (.slice t.p t.k t.c) (.slice t.q t.m t.e)
 ⟨Ko h.g hn.2.1 _ _ _,h.t4.upd hu hn.2.2,h.t5.put ht⟩
theorem J5y (w:World)(tp q:Option Addr)(tc c m:Nat)(l:List Jg)(a:Nat→Rat)(X:Nat→Int)(ht:Lp w (.slice tp l.length tc) l)(hl:l.length≤1000)(hti:∀ t ∈ l,0≤t.v∧t.v < (m:Int)∧In t.c)(ha:Ke w (.slice q m c) m a 80)
  (hax:∀ i,i < m→a i=((X i:Int):Rat)) (hX:∀ i,I64 (X i)) (hm:m≤1000):
  Calls Tryz.prog 55 #[.slice tp l.length tc,.slice q m c] w (Ret w fun r w'=>RatC w' r ((dotZ l X:Int):Rat)):=by
 have HT:=ξ ht
 have HTI:=ξ hti
 have HA:=ξ ha
 have HAX:=ξ hax
 have HX:=ξ hX
 have HZ:=ξ (fun k=>Xa (l:=l.take k) hX (fun t h=>(hti t (List.mem_of_mem_take h)).2.2) (by rw[List.length_take];omega))
 clear ht hti ha hax hX
 have B4:=box3 w (.bool false) (.slice none 0 0) (.slice none 0 0) 68
 have B5:=box3 (w.alloc (.cells #[.bool false,.slice none 0 0,.slice none 0 0] 68)) (.bool false) (.slice none 0 0) (.slice none 0 0) 68
 simp only[World.size_alloc] at B5
 have HS0:=ξ (show Mr w _ w.heap.size (w.heap.size+1) 0 from⟨B4.1.trans B5.1,B4.2.grow B5.1,zeroRat,B5.2,J6W _⟩)
 clear B4 B5
 go_enter Tryz.func55,Tryz.ntmps55
 go_wp2_with fail
 have HNE:=ξ (show w.heap.size≤w.heap.size∧w.heap.size≤w.heap.size+1∧w.heap.size≠w.heap.size+1 from by omega)
 generalize hb5:w.heap.size+1=b5 at HS0 HNE ⊢
 generalize hb4:w.heap.size=b4 at HS0 HNE ⊢
 have HNE:=ξ (show w.heap.size≤b4∧w.heap.size≤b5∧b4≠b5 from by have:=HNE.out;omega)
 clear hb4 hb5
 generalize (w.alloc _).alloc _=W2 at HS0 ⊢
 go_loopw [6] (fun i w9=>∃ k:Nat,i = .int .i64 (k:Int)∧k≤l.length∧Mr w w9 b4 b5 ((dotZ (l.take k) X:Int):Rat)) (fun i _=>l.length - (RowKit.intOf i).toNat)
 case atStart=>exact⟨0,rfl,Nat.zero_le _,by have:=HS0.out;simpa[dotZ] using this⟩
 case round=>
  clear HS0
  obtain⟨k,rfl,hk,hq⟩:=hrel
  have HS:=ξ hq
  clear hq
  by_cases hlt:k < l.length
  ·have hlt':(k:Int) < (l.length:Int):=by omega
   obtain⟨b,o,x,rfl,hx,hc⟩:=P2 HT.out rfl hlt
   have HXX:=ξ hx
   obtain⟨hv0,hv1,hci⟩:=HTI.out x (List.mem_of_getElem? hx)
   obtain⟨vn,hvn⟩:∃ n:Nat,x.v=(n:Int):=⟨x.v.toNat,by omega⟩
   have HVN:=ξ (show x.v.toNat=vn∧vn < m from by omega)
   have c0:=fun w' g=>(hc w' (HS.out.g.trans g)).1
   have c1:=fun w' g=>(hc w' (HS.out.g.trans g)).2
   rw[hvn] at c0
   obtain⟨xc,hxc⟩:∃ z,x.c=z:=⟨_,rfl⟩
   rw[hxc] at c1 hci
   have HCI:=ξ hci
   have HDT:=ξ (show((dotZ (l.take k) X:Int):Rat)+((xc * X vn:Int):Rat)=((dotZ (l.take (k+1)) X:Int):Rat) from by
    rw[J2t X hx,HVN.out.1,hxc]
    push_cast
    rfl)
   have HAV:=ξ (HAX.out vn HVN.out.2)
   clear hx hv0 hv1 hci hvn hxc hc
   go_wp2_with fail
   obtain⟨ts,h7,hts⟩:=HS.out.t5
   have HTS:=ξ hts
   have d0:=h7.c0
   have d1:=h7.c1
   have d2:=h7.c2
   have g0:Gr wr wr.drew:=(Gr.refl _).drew
   have GZ:=ξ g0
   clear h7 hts
   refine Jp [(0,true),(1,true),(2,true),(3,true),(4,true),(5,true),(6,true),(7,true),(8,true),(9,true),(10,true),(11,true),(12,false),(13,false),(14,false),(15,false)] (by kernel_rfl) (by kernel_rfl) rfl (by kernel_rfl) (fun _ _ d _ _ h=>by cases d<;>exact h) ?_
   generalize wr.drew=Wd at g0 GZ ⊢
   repeat(refine Jf (v:=?_) g0 rfl rfl (fun w' hg=>?_) (fun K hK=>?_);rotate_left;(go_simp;rfl);go_simp;refine hK _ _ ?_;clear hK K)
   refine Jd (args:=?_) rfl rfl rfl rfl rfl rfl (by kernel_rfl) (by kernel_rfl) ?_ (fun K hK=>?_)
   rotate_left
   ·go_simp;rfl
   refine(J0f Wd q m c a 80 vn (a vn) (HA.out.grow (HS.out.g.trans GZ.out)) (fun _ _=>by simp) (fun h=>absurd ⟨by omega,by have:=HVN.out.2;omega⟩ h)).mono ?_
   rintro _ w4 ⟨r1,rfl,g1,h1⟩
   rw[HAV.out] at h1
   refine⟨_,rfl,g1,?_⟩
   go_simp
   refine hK _ _ ?_
   clear hK K
   have GZ:=ξ (GZ.out.trans g1)
   refine Jd (args:=?_) rfl rfl rfl rfl rfl rfl (by kernel_rfl) (by kernel_rfl) ?_ (fun K hK=>?_)
   rotate_left
   ·go_simp;rfl
   refine(J5C _ xc r1 _ ((xc * X vn:Int):Rat) 80 HCI.out h1 (by push_cast;rfl) (by decide)).mono ?_
   rintro _ w5 ⟨r2,rfl,g2,h2⟩
   refine⟨_,rfl,g2,?_⟩
   go_simp
   refine hK _ _ ?_
   clear hK K
   have GZ:=ξ (GZ.out.trans g2)
   clear h1
   refine Jd (args:=?_) rfl rfl rfl rfl rfl rfl (by kernel_rfl) (by kernel_rfl) ?_ (fun K hK=>?_)
   rotate_left
   ·go_simp;rfl
   refine(J0r _ _ _ _ _ ((dotZ (l.take (k+1)) X:Int):Rat) 4 4 (RatC.v (HTS.out.grow GZ.out) (HZ.out k)) (h2.v (Uj (Nat.le_trans (Y2 HCI.out (HX.out vn)) (by decide)))) HDT.out (by decide) (by decide)).mono ?_
   rintro _ w6 ⟨r3,rfl,g3,h3⟩
   refine⟨_,rfl,g3,?_⟩
   go_simp
   refine hK _ _ ?_
   clear hK K
   have GZ:=ξ (GZ.out.trans g3)
   clear h2
   have HS:=ξ (HS.out.grow GZ.out)
   obtain⟨s8,p8,k8,c8,e8,m8,n8,rfl⟩:=h3.agg
   obtain⟨t1,h7,-⟩:=HS.out.t5
   have f0:=h7.load.1
   have f1:=h7.load.2.1
   have f2:=h7.load.2.2
   have f3:=h7.f0 0
   have f4:=h7.f0 1
   have f5:=h7.f0 2
   have HNX:=ξ (show Mr w (set3 w6 b5 (.bool s8) (.slice p8 k8 c8) (.slice e8 m8 n8)) b4 b5 ((dotZ (l.take (k+1)) X:Int):Rat) from HS.out.put HNE.out (t:=⟨s8,p8,k8,c8,e8,m8,n8⟩) h3)
   clear h3 h7 d0 d1 d2 c0 c1
   refine Jj rfl rfl (fun K hK=>?_)
   go_simp
   refine⟨fun h=>Bool.noConfusion h,hK _ _ ?_⟩
   clear hK K
   unfold set3 at HNX
   generalize ((w6.setCell _ _).setCell _ _).setCell _ _=W5 at HNX ⊢
   refine Ji ?_
   clear f0 f1 f2 f3 f4 f5 g0 g1 g2 g3
   have hk1:IntKind.i64.wrap ((k:Int)+1)=(k:Int)+1:=by rw[IntKind.wrap_i64];omega
   go_wp2_with fail
   exact⟨⟨k+1,by go_num,by omega,HNX.out⟩,by simp[RowKit.intOf];omega⟩
  ·obtain rfl:k=l.length:=by omega
   obtain⟨ts,h7,hts⟩:=HS.out.t5
   have HTS:=ξ hts
   have d0:=h7.load.1
   have d1:=h7.load.2.1
   have d2:=h7.load.2.2
   have h5:=HS.out.t4
   have f0:=h5.load.1
   have f1:=h5.load.2.1
   have f2:=h5.load.2.2
   have f3:=h5.f0 0
   have f4:=h5.f0 1
   have f5:=h5.f0 2
   have HFX:=ξ (show Gr w (set3 wr b4 (.bool ts.n) (.slice ts.p ts.k ts.c) (.slice ts.q ts.m ts.e))∧Jk (set3 wr b4 (.bool ts.n) (.slice ts.p ts.k ts.c) (.slice ts.q ts.m ts.e)) b4 (.bool ts.n) (.slice ts.p ts.k ts.c) (.slice ts.q ts.m ts.e)∧RatC (set3 wr b4 (.bool ts.n) (.slice ts.p ts.k ts.c) (.slice ts.q ts.m ts.e)) ts.v ((dotZ l X:Int):Rat) from
    ⟨Ko HS.out.g HNE.out.1 _ _ _,h5.set _ _ _,by have h:=HTS.out.upd h5.noInt (upd3 wr b4 (.bool ts.n) (.slice ts.p ts.k ts.c) (.slice ts.q ts.m ts.e));rwa [List.take_length] at h⟩)
   clear h5 h7 hts
   go_wp2_with fail
   clear d0 d1 d2 f0 f1 f2 f3 f4 f5
   unfold set3 at HFX
   generalize ((wr.setCell _ _).setCell _ _).setCell _ _=W5 at HFX ⊢
   have T0_0:=HFX.out.2.1.load.1
   have T0_1:=HFX.out.2.1.load.2.1
   have T0_2:=HFX.out.2.1.load.2.2
   refine bodyPost_ret (by simp[results,Tryz.results55,go_sem,T0_0,T0_1,T0_2];rfl) rfl ?_
   exact⟨_,rfl,HFX.out.1,HFX.out.2.2⟩
theorem Sz.mono' {L M:Nat}{x:Rat}(h:Sz L x)(hM:L≤M):Sz M x:=⟨Nat.le_trans h.1 hM,Nat.le_trans h.2 hM⟩
structure Rp (w W:World)(bp bo b7:Nat)(u0 u1:Value)(n:Nat)(a:Nat→Rat)(s:Rat):Prop where
 g:Gr w W
 tp:Ja W bp #[u0,u1]
 ro:Jo W bo n a 80
 t7:J6 W b7 s
theorem Rp.grow {w W W':World}{bp bo b7:Nat}{u0 u1:Value}{n:Nat}{a:Nat→Rat}{s:Rat}(h:Rp w W bp bo b7 u0 u1 n a s)(g:Gr W W'):Rp w W' bp bo b7 u0 u1 n a s:=
 ⟨h.g.trans g,h.tp.grow g,h.ro.grow g,h.t7.grow g⟩
theorem Tw:∀ (l:List Jg) (j:Nat),(∀ x ∈ l,x.v≠(j:Int))→rowCoef l j=0
 | [],_,_=>rfl
 | t :: l,j,h=>by
  rw[J0n,if_neg (h t (List.mem_cons_self ..)),Tw l j fun x hx=>h x (List.mem_cons_of_mem _ hx)]
  rfl
theorem S0 {n:Nat}:∀ (l:List Jg) (last:Int) (k:Nat) (t:Jg),l[k]?=some t→Inc n last l→∀ x ∈ l.take k,x.v < t.v
 | y :: l,last,0,t,_,_,x,hx=>by simp at hx
 | y :: l,last,k+1,t,ht,h,x,hx=>by
  have ht':l[k]?=some t:=by simpa using ht
  rw[List.take_succ_cons] at hx
  rcases List.mem_cons.1 hx with rfl|hx
  ·exact(Ng l _ k t ht' h.2).1
  ·exact S0 l y.v k t ht' h.2 x hx
theorem Oz {sg c:Int}(hs:sg=1∨sg = -1)(h:In c):In (sg * c)∧IntKind.i64.wrap (sg * c)=sg * c:=by
 have h1:In (sg * c):=by
  unfold In at h ⊢
  rcases hs with rfl|rfl<;>omega
 refine⟨h1,?_⟩
 rw[IntKind.wrap_i64]
 unfold In at h1
 omega
structure Ro (w W:World)(bp bo:Nat)(u0 u1:Value)(n:Nat)(a:Nat→Rat):Prop where
 g:Gr w W
 tp:Ja W bp #[u0,u1]
 ro:Jo W bo n a 80
theorem Ro.grow {w W W':World}{bp bo:Nat}{u0 u1:Value}{n:Nat}{a:Nat→Rat}(h:Ro w W bp bo u0 u1 n a)(g:Gr W W'):Ro w W' bp bo u0 u1 n a:=
 ⟨h.g.trans g,h.tp.grow g,h.ro.grow g⟩
def cutV (k:Int)(p:Option Addr)(m e:Nat)(row:Int)(q:Option Addr)(n f:Nat):Value:=.agg #[.int .i64 k,.slice p m e,.int .i64 row,.slice q n f]
end Prf
end Go.Proofs.YtcjgimlcefhhmaaGreatDoor
