/- Texts: Row2 PrC PsA Put PrD App PrK Frs. -/
import Derived.Test.YtcjgimlcefhhmaaGreatDoorC12
import Derived.Test.YtcjgimlcefhhmaaGreatDoorC13
set_option linter.unusedVariables false
set_option linter.unusedSimpArgs false
set_option maxRecDepth 100000
set_option maxHeartbeats 12800000
namespace Go.Proofs.YtcjgimlcefhhmaaGreatDoor
open Go.RowKit
section enc
variable {α:Type}{enc:α→List Value}{sz:Nat}
theorem K4 (b:∀ x,(enc x).length=sz):∀ l:List α,(l.flatMap enc).length=l.length * sz
 | []=>by simp
 | x :: l=>by rw[List.flatMap_cons,List.length_append,b,K4 b l,List.length_cons,Nat.add_mul];omega
theorem Om (b:∀ x,(enc x).length=sz):∀ (l:List α) (k:Nat) (x:α) (j:Nat),l[k]?=some x→j < sz→(l.flatMap enc)[k * sz+j]?=(enc x)[j]?
 | [],k,x,j,h,_=>by simp at h
 | y :: l,0,x,j,h,hj=>by
  simp at h;subst h;rw[List.flatMap_cons,List.getElem?_append_left (by rw[b];omega)];simp
 | y :: l,k+1,x,j,h,hj=>by
  have c:=Om b l k x j (by simpa using h) hj;rw[List.flatMap_cons,List.getElem?_append_right (by rw[b,Nat.add_mul];omega),← c,b];congr 1;rw[Nat.add_mul];omega
def SlL (w:World)(sz:Nat)(enc:α→List Value)(v:Value)(l:List α):Prop:=SlV w sz v l.length (l.flatMap enc)
theorem SlL.grow {w w':World}{v:Value}{l:List α}(h:SlL w sz enc v l)(g:Gr w w'):SlL w' sz enc v l:=SlV.grow h g
theorem SlL.parts {w:World}{v:Value}{l:List α}(h:SlL w sz enc v l):∃ p c,v = .slice p l.length c∧l.length≤c∧c≤9223372036854775807:=SlV.parts h
theorem SlL.nil (w:World):SlL w sz enc (.slice none 0 0) []:=SlV.nil w sz
theorem SlL.at {w:World}{p:Option Addr}{n c:Nat}{l:List α}(d:∀ x,(enc x).length=sz)(h:SlL w sz enc (.slice p n c) l)(r:l.length=n){k:Nat}(s:k < n):
  ∃ b o x,p=some ⟨b,o,none⟩∧l[k]?=some x∧∀ j u,(enc x)[j]?=some u→∀ w',Gr w w'→w'.cell? ⟨b,o+k * sz+j,none⟩=some u:=by
 unfold SlL at h;rw[r] at h;obtain⟨b,o,rfl,m⟩:=SlV.cells h (by omega);obtain⟨x,i⟩:∃ x,l[k]?=some x:=⟨_,List.getElem?_eq_getElem (by omega)⟩
 refine⟨b,o,x,rfl,i,fun j u f w' g=>?_⟩;have q:j < sz:=by
  have:=(List.getElem?_eq_some_iff.1 f).1;rw[d] at this;exact this
 rw[Nat.add_assoc];exact g.cell (m _ _ ((Om d l k x j i q).trans f))
theorem SlL.at1 {w:World}{p:Option Addr}{n c:Nat}{l:List α}(f:∀ x,(enc x).length=1)(h:SlL w 1 enc (.slice p n c) l)(j:l.length=n){k:Nat}(i:k < n):
  ∃ b o x,p=some ⟨b,o,none⟩∧l[k]?=some x∧∀ u,enc x=[u]→∀ w',Gr w w'→w'.cell? ⟨b,o+k,none⟩=some u:=by
 obtain⟨b,o,x,m,r,d⟩:=h.at f j i;refine⟨b,o,x,m,r,fun u q w' g=>?_⟩;have:=d 0 u (by rw[q];rfl) w' g;simpa using this
def OwnL (w:World)(base:Nat)(e:TypeId)(sz:Nat)(enc:α→List Value)(v:Value)(l:List α):Prop:=w.ownsRow base e sz v l.length (l.flatMap enc)
theorem OwnL.read {w:World}{base:Nat}{e:TypeId}{v:Value}{l:List α}(h:OwnL w base e sz enc v l):SlL w sz enc v l:=SlV.of_own h
theorem OwnL.grow {w w':World}{base:Nat}{e:TypeId}{v:Value}{l:List α}(h:OwnL w base e sz enc v l)(g:Gr w w'):OwnL w' base e sz enc v l:=J4X h g
theorem OwnL.nil (w:World)(base:Nat)(e:TypeId):OwnL w base e sz enc (.slice none 0 0) []:=World.ownsRow_nil w base e sz
theorem OwnL.made0 (w:World)(base:Nat)(e:TypeId)(b:base≤w.heap.size):OwnL (w.alloc (.cells #[] e)) base e sz enc (.slice (some ⟨w.heap.size,0,none⟩) 0 0) []:=
 World.ownsRow_made w #[] 0 b (by simp[maxLen]) (by simp)
theorem OwnL.ne {w:World}{base:Nat}{e:TypeId}{v:Value}{l:List α}(h:OwnL w base e sz enc v l):some w.heap.size≠v.ownBlock:=fun e=>by
 have:=(h.lt _ e.symm).2;omega
theorem OwnL.gr {a w w':World}{e:TypeId}{v:Value}{l:List α}(h:OwnL w a.heap.size e sz enc v l)(g:Gr a w)(b:w.grownBy w' v.ownBlock):Gr a w':=J4W g h b
theorem SlL.new (w:World)(t:TypeId)(d:∀ x,(enc x).length=sz)(l:List α)(b:Array Value)(n:Nat)(h:b.toList=l.flatMap enc)(c:l.length=n)(f:n≤1000000000):
  Gr w (w.alloc (.cells b t))∧SlL (w.alloc (.cells b t)) sz enc (.slice (some ⟨w.heap.size,0,none⟩) n n) l:=by
 refine⟨(Gr.refl w).alloc _,?_⟩;have:=SlV.new w sz n b t (by rw[← c,← K4 d,← h];simp) f;unfold SlL;rw[c,← h];exact this
end enc
def Ja (w:World)(b:Nat)(vs:Array Value):Prop:=∃ t,w.heap[b]?=some (.cells vs t (0,0))
theorem Ja.lt {w:World}{b:Nat}{d:Array Value}(h:Ja w b d):b < w.heap.size:=by
 obtain⟨t,h⟩:=h;rcases Nat.lt_or_ge b w.heap.size with c|c
 ·exact c
 ·rw[Array.getElem?_eq_none c] at h;cases h
theorem Ja.grow {w w':World}{b:Nat}{c:Array Value}(h:Ja w b c)(g:Gr w w'):Ja w' b c:=by
 have d:=h.lt;obtain⟨t,h⟩:=h;exact⟨t,by rw[Below.block g b d];exact h⟩
theorem Ja.grown {w w':World}{b:Nat}{c:Array Value}{row:Option Nat}(h:Ja w b c)(g:w.grownBy w' row)(f:some b≠row):Ja w' b c:=by
 have d:=h.lt;obtain⟨t,h⟩:=h;exact⟨t,by rw[g.block b d f];exact h⟩
theorem Ja.at {w:World}{b:Nat}{c:Array Value}(h:Ja w b c)(j:Nat){u:Value}(d:c[j]?=some u):w.cell? ⟨b,j,none⟩=some u:=by
 obtain⟨t,h⟩:=h;simp[World.cell?,h,d]
theorem Ja.c {w:World}{b:Nat}{c:Array Value}(h:Ja w b c)(j:Nat){u:Value}(d:c[j]?=some u):∀ w',Gr w w'→w'.cell? ⟨b,j,none⟩=some u:=fun w' g=>(h.grow g).at j d
theorem Ja.f {w:World}{b:Nat}{c:Array Value}(h:Ja w b c)(j:Nat):w.frozen? ⟨b,j,none⟩=false:=by
 obtain⟨t,h⟩:=h;simp[World.frozen?,h]
theorem Ja.new (w:World)(b:Array Value)(t:TypeId):Gr w (w.alloc (.cells b t))∧Ja (w.alloc (.cells b t)) w.heap.size b:=⟨(Gr.refl w).alloc _,t,heap_alloc_new w _⟩
theorem Ja.set {w:World}{b:Nat}{c:Array Value}(h:Ja w b c)(j:Nat)(u:Value):Ja (w.setCell ⟨b,j,none⟩ u) b (c.setIfInBounds j u):=by
 obtain⟨t,h⟩:=h;refine⟨t,?_⟩;simp[World.setCell,Array.getElem?_modify,h]
theorem J5 (w:World)(b i:Nat)(u:Value):Upd b w (w.setCell ⟨b,i,none⟩ u):=fun j c=>Below.heap_setCell _ _ _ _ c
theorem Ja.upd {w w':World}{b b':Nat}{c:Array Value}(h:Ja w b' c)(f:Upd b w w')(d:b'≠b):Ja w' b' c:=by
 obtain⟨t,h⟩:=h;exact⟨t,by rw[f b' d];exact h⟩
theorem Gr.set {a w:World}(g:Gr a w){b i:Nat}(c:¬ b < a.heap.size)(u:Value):Gr a (w.setCell ⟨b,i,none⟩ u):=
 Below.setCell g (by show a.heap.size≤b;omega) u
section append
variable {α:Type}{enc:α→List Value}{sz:Nat}{P:Program}{ops:Array Oper}{rest:List Oper}{o:Oper}{a:Act}{Q:Exit→Act→World→Prop}{w:World}
theorem J6U (r:o.guard=none)(s x:Operand)(t e:TypeId)(z:Value)(bytes:Nat)(A:o.op = .call { callee:=.builtin .append,args:=#[s,x],argTypes:=#[t,t] })
  (n:P.underlying t=some (.slice e)) (M:(P.info? e).map (fun i=>(i.zero,i.size,i.bytes))=some (some z,sz,bytes)) (a2:z.cells.size=sz) (W:0 < sz) (J:∀ x,(enc x).length=sz) (F:∀ x,∀ u ∈ enc x,u.oneCell'=true)
  (base:Nat) (v vx:Value) (l m:List α) (B:a.eval s=v) (k:OwnL w base e sz enc v l) (C:a.eval x=vx) (O:SlL w sz enc vx m)
  (N:(l.length+m.length) * bytes≤140737488355328) (a5:l.length+m.length≤1000000000000) (H:base≤w.heap.size)
  (h:∀ d w',OwnL w' base e sz enc d (l ++ m)→w.grownBy w' v.ownBlock→wpList P ops Q rest (a.put o.dst d) w'):wpList P ops Q (o :: rest) a w:=by
 obtain⟨i0,f,Y,a0,a1⟩:=info_parts M;obtain⟨hd,p,c,rfl,k1,k2,k3⟩:=O;rcases k3 with rfl|⟨b,a3,rfl,I⟩
 ·have R:m=[]:=List.eq_nil_of_length_eq_zero (by omega);subst R;have E:=h v w (by simpa using k) ⟨rfl,rfl,rfl,Nat.le_refl _,fun _ _ _=>rfl⟩;refine wpList_plain r (fun K G=>?_);have V:(Builtin.append_ #[t,t] o.type #[v,.slice p 0 0]).run P w = .ok v w:=by
   rcases k.2 with⟨rfl,_⟩|⟨g,D,a4,rfl,_,hh,S,_⟩
   ·cases p<;>simp[Builtin.append_,run_underlying n,sizeOf,typeInfo,f,Builtin.lenOf,Builtin.firstCells,loadCells,loadCellsFrom]
   ·have T:l.length≤D:=S
    cases p<;>simp[Builtin.append_,run_underlying n,sizeOf,typeInfo,f,Builtin.lenOf,Builtin.firstCells,loadCells,loadCellsFrom,T,storeCells]
  unfold Oper.wp execOp;simp only[A,resolve,invoke,builtin,Sem.run_bind,Sem.run_pure,Result.andThen_ok,List.map_toArray,List.map_cons,List.map_nil,B,C,List.length_nil,V];exact G _ _ E
 ·refine wpList_append_own _ r s x t A base e i0 z sz bytes n f Y a0 a1 a2 W v l.length (l.flatMap enc) B k ⟨b,a3,none⟩ m.length c (m.flatMap enc) C
   (K4 J m) (fun j u q=>?_) (fun u q=>?_) (by unfold maxLen;omega) N H (fun d w' U L _=>?_)
  ·rw[Nv];exact I j u q
  ·obtain⟨y,_,X⟩:=List.mem_flatMap.1 q;exact F y u X
  ·refine h d w' ?_ L;unfold OwnL;rw[List.flatMap_append,List.length_append];exact U
end append
end Go.Proofs.YtcjgimlcefhhmaaGreatDoor
namespace Go.Proofs.YtcjgimlcefhhmaaGreatDoor
namespace Prf
open Go.RowKit
structure RatM where
 n:Bool
 p:Option Addr
 k:Nat
 c:Nat
 q:Option Addr
 m:Nat
 e:Nat
def RatM.v (x:RatM):Value:=.agg #[.bool x.n,.slice x.p x.k x.c,.slice x.q x.m x.e]
def encRat (x:RatM):List Value:=[.bool x.n,.slice x.p x.k x.c,.slice x.q x.m x.e]
theorem L9 (x:RatM):(encRat x).length=3:=rfl
def Kq (w:World)(v:Value)(n:Nat)(a:Nat→Rat)(L:Nat):Prop:=
 ∃ T:List RatM,SlL w 3 encRat v T∧T.length=n∧∀ (i:Nat) (t:RatM),T[i]?=some t→RatV w t.v (a i) L
theorem Kq.grow {w w':World}{v:Value}{n:Nat}{a:Nat→Rat}{L:Nat}(h:Kq w v n a L)(g:Gr w w'):Kq w' v n a L:=by
 obtain⟨T,b,c,d⟩:=h;exact⟨T,b.grow g,c,fun i t f=>(d i t f).grow g⟩
theorem Kq.parts {w:World}{v:Value}{n:Nat}{a:Nat→Rat}{L:Nat}(h:Kq w v n a L):∃ p c,v = .slice p n c∧n≤c∧c≤9223372036854775807:=by
 obtain⟨T,b,d,f⟩:=h;rw[← d];exact b.parts
theorem Kq.congr {w:World}{v:Value}{n:Nat}{a b:Nat→Rat}{L:Nat}(h:Kq w v n a L)(e:∀ i,i < n→a i=b i):Kq w v n b L:=by
 obtain⟨T,d,f,g⟩:=h;exact⟨T,d,f,fun i t c=>by rw[← e i (by have:=(List.getElem?_eq_some_iff.1 c).1;omega)];exact g i t c⟩
def Vv (w:World)(b o:Nat)(x:RatM):Prop:=w.cell? ⟨b,o,none⟩=some (.bool x.n)∧w.cell? ⟨b,o+1,none⟩=some (.slice x.p x.k x.c)∧w.cell? ⟨b,o+2,none⟩=some (.slice x.q x.m x.e)
theorem Kq.at {w:World}{p:Option Addr}{n m c:Nat}{a:Nat→Rat}{L:Nat}(h:Kq w (.slice p m c) n a L){k:Nat}(s:k < n):
  ∃ b o t,p=some ⟨b,o,none⟩∧RatV w t.v (a k) L∧∀ w',Gr w w'→Vv w' b (o+k * 3) t:=by
 obtain⟨T,f,r,i⟩:=h;have j:T.length=m:=by
  obtain⟨p',c',e,_⟩:=f.parts
  cases e;rfl
 obtain⟨b,o,t,l,q,d⟩:=f.at L9 j (k:=k) (by omega);exact⟨b,o,t,l,i k t q,fun w' g=>⟨d 0 _ rfl w' g,d 1 _ rfl w' g,d 2 _ rfl w' g⟩⟩
abbrev L1 (w:World)(v:Value)(xs:List Rat)(L:Nat):Prop:=Kq w v xs.length (atQ xs) L
def encTerm (x:Ji):List Value:=[.int .i64 x.v,.int .i64 x.c]
theorem Mm (x:Ji):(encTerm x).length=2:=rfl
structure RowM where
 name:List UInt8
 group:Int
 kind:Int
 tp:Option Addr
 tc:Nat
 terms:List Ji
 bound:Int
def RowM.s (x:RowM):RowS:=⟨x.name,x.group,x.kind,x.terms,x.bound⟩
def encRow (x:RowM):List Value:=[.string ⟨x.name.toArray⟩,.int .i64 x.group,.int .i64 x.kind,.slice x.tp x.terms.length x.tc,.int .i64 x.bound]
theorem Lk (x:RowM):(encRow x).length=5:=rfl
def encVar (x:VarM):List Value:=[.int .i64 x.lo,.int .i64 x.up,.bool x.op,.bool x.ig,.int .i64 x.cost]
theorem K0 (x:VarM):(encVar x).length=5:=rfl
abbrev Lg (w:World)(v:Value)(l:List Ji):Prop:=SlL w 2 encTerm v l
abbrev K8 (w:World)(v:Value)(l:List VarM):Prop:=SlL w 5 encVar v l
def L2 (w:World)(x:RowM):Prop:=Lg w (.slice x.tp x.terms.length x.tc) x.terms
def M0 (w:World)(v:Value)(R:List RowS):Prop:=∃ T:List RowM,SlL w 5 encRow v T∧T.map RowM.s=R∧∀ x ∈ T,L2 w x
theorem M0.grow {w w':World}{v:Value}{R:List RowS}(h:M0 w v R)(g:Gr w w'):M0 w' v R:=by
 obtain⟨T,b,c,d⟩:=h;exact⟨T,b.grow g,c,fun x f=>SlL.grow (d x f) g⟩
theorem M0.parts {w:World}{v:Value}{R:List RowS}(h:M0 w v R):∃ p c,v = .slice p R.length c∧R.length≤c∧c≤9223372036854775807:=by
 obtain⟨T,b,d,f⟩:=h;rw[← d,List.length_map];exact b.parts
def Vw (w:World)(b o:Nat)(x:RowM):Prop:=w.cell? ⟨b,o,none⟩=some (.string ⟨x.name.toArray⟩)∧w.cell? ⟨b,o+1,none⟩=some (.int .i64 x.group)∧w.cell? ⟨b,o+2,none⟩=some (.int .i64 x.kind)∧
 w.cell? ⟨b,o+3,none⟩=some (.slice x.tp x.terms.length x.tc)∧w.cell? ⟨b,o+4,none⟩=some (.int .i64 x.bound)
theorem M0.at {w:World}{p:Option Addr}{n c:Nat}{R:List RowS}(h:M0 w (.slice p n c) R){k:Nat}(m:k < R.length):
  ∃ b o x,p=some ⟨b,o,none⟩∧R[k]?=some x.s∧L2 w x∧∀ w',Gr w w'→Vw w' b (o+k * 5) x:=by
 obtain⟨T,f,j,l⟩:=h;subst j;have q:T.length=n:=by
  obtain⟨p',c',e,_⟩:=f.parts
  cases e;rfl
 obtain⟨b,o,x,r,i,d⟩:=f.at Lk q (k:=k) (by rw[List.length_map] at m;omega);exact⟨b,o,x,r,by rw[List.getElem?_map,i];rfl,l x (List.mem_of_getElem? i),fun w' g=>⟨d 0 _ rfl w' g,d 1 _ rfl w' g,d 2 _ rfl w' g,d 3 _ rfl w' g,d 4 _ rfl w' g⟩⟩
def J1Z (w:World)(b o:Nat)(x:VarM):Prop:=w.cell? ⟨b,o,none⟩=some (.int .i64 x.lo)∧w.cell? ⟨b,o+1,none⟩=some (.int .i64 x.up)∧w.cell? ⟨b,o+2,none⟩=some (.bool x.op)∧
 w.cell? ⟨b,o+3,none⟩=some (.bool x.ig)∧w.cell? ⟨b,o+4,none⟩=some (.int .i64 x.cost)
theorem K5 {w:World}{p:Option Addr}{n c:Nat}{l:List VarM}(h:K8 w (.slice p n c) l)(i:l.length=n){k:Nat}(f:k < n):
  ∃ b o x,p=some ⟨b,o,none⟩∧l[k]?=some x∧∀ w',Gr w w'→J1Z w' b (o+k * 5) x:=by
 obtain⟨b,o,x,j,m,d⟩:=h.at K0 i f;exact⟨b,o,x,j,m,fun w' g=>⟨d 0 _ rfl w' g,d 1 _ rfl w' g,d 2 _ rfl w' g,d 3 _ rfl w' g,d 4 _ rfl w' g⟩⟩
def J1Y (w:World)(b o:Nat)(x:Ji):Prop:=w.cell? ⟨b,o,none⟩=some (.int .i64 x.v)∧w.cell? ⟨b,o+1,none⟩=some (.int .i64 x.c)
theorem O0 {w:World}{p:Option Addr}{n c:Nat}{l:List Ji}(h:Lg w (.slice p n c) l)(i:l.length=n){k:Nat}(f:k < n):
  ∃ b o x,p=some ⟨b,o,none⟩∧l[k]?=some x∧∀ w',Gr w w'→J1Y w' b (o+k * 2) x:=by
 obtain⟨b,o,x,j,m,d⟩:=h.at Mm i f;exact⟨b,o,x,j,m,fun w' g=>⟨d 0 _ rfl w' g,d 1 _ rfl w' g⟩⟩
def I64 (n:Int):Prop:=-9223372036854775808≤n∧n≤9223372036854775807
def Qy (t:Ji):Prop:=I64 t.v∧I64 t.c
def RowI (r:RowS):Prop:=I64 r.group∧I64 r.kind∧I64 r.bound∧∀ t ∈ r.terms,Qy t
def VarI (v:VarM):Prop:=I64 v.lo∧I64 v.up∧I64 v.cost
def PrgI (p:Prg):Prop:=(∀ v ∈ p.vars,VarI v)∧∀ r ∈ p.rows,RowI r
def prgV (a:Option Addr)(c:Nat)(b:Option Addr)(d:Nat)(p:Prg):Value:=.agg #[.slice a p.vars.length c,.slice b p.rows.length d]
def Js (w:World)(v:Value)(p:Prg):Prop:=∃ a c b d,v=prgV a c b d p∧K8 w (.slice a p.vars.length c) p.vars∧M0 w (.slice b p.rows.length d) p.rows
theorem Js.grow {w w':World}{v:Value}{p:Prg}(h:Js w v p)(g:Gr w w'):Js w' v p:=by
 obtain⟨a,c,b,d,e,f,i⟩:=h;exact⟨a,c,b,d,e,f.grow g,i.grow g⟩
structure Jr where
 kind:Int
 mp:Option Addr
 mn:Nat
 mc:Nat
 var:Int
 pos:Int
 ck:Int
 cp:Option Addr
 cn:Nat
 cc:Nat
 row:Int
 vp:Option Addr
 vn:Nat
 vc:Nat
def Jr.cutV (x:Jr):Value:=.agg #[.int .i64 x.ck,.slice x.cp x.cn x.cc,.int .i64 x.row,.slice x.vp x.vn x.vc]
def encNode (x:Jr):List Value:=[.int .i64 x.kind,.slice x.mp x.mn x.mc,.int .i64 x.var,.int .i64 x.pos,.int .i64 x.ck,.slice x.cp x.cn x.cc,.int .i64 x.row,.slice x.vp x.vn x.vc]
theorem N0 (x:Jr):(encNode x).length=8:=rfl
def encI (n:Int):List Value:=[.int .i64 n]
theorem Xw (x:Int):(encI x).length=1:=rfl
abbrev Mi (w:World)(v:Value)(l:List Int):Prop:=SlL w 1 encI v l
theorem Lm {w:World}{p:Option Addr}{n c:Nat}{l:List Int}(h:Mi w (.slice p n c) l)(i:l.length=n){k:Nat}(f:k < n):∃ b o x,p=some ⟨b,o,none⟩∧l[k]?=some x∧∀ w',Gr w w'→w'.cell? ⟨b,o+k,none⟩=some (.int .i64 x):=by
 obtain⟨b,o,x,j,m,d⟩:=h.at1 Xw i f;exact⟨b,o,x,j,m,fun w' g=>d _ rfl w' g⟩
structure Lc (w:World)(v:Value)(c:CutS)(L:Nat):Prop where
 parts:∃ p m e q n f,v = .agg #[.int .i64 c.kind,.slice p m e,.int .i64 c.row,.slice q n f]∧L1 w (.slice p m e) c.mult L∧Mi w (.slice q n f) c.vars∧m=c.mult.length∧n=c.vars.length
theorem Lc.grow {w w':World}{v:Value}{c:CutS}{L:Nat}(h:Lc w v c L)(g:Gr w w'):Lc w' v c L:=by
 obtain⟨p,m,e,q,n,f,b,d,i,j⟩:=h.parts;exact⟨p,m,e,q,n,f,b,d.grow g,i.grow g,j⟩
structure Kl (w:World)(x:Jr)(s:Jk)(L:Nat):Prop where
 kind:x.kind=s.kind
 var:x.var=s.var
 pos:x.pos=s.pos
 mult:L1 w (.slice x.mp x.mn x.mc) s.mult L
 mn:x.mn=s.mult.length
 cut:Lc w x.cutV s.cut L
theorem Kl.grow {w w':World}{x:Jr}{s:Jk}{L:Nat}(h:Kl w x s L)(g:Gr w w'):Kl w' x s L:=
 ⟨h.kind,h.var,h.pos,h.mult.grow g,h.mn,h.cut.grow g⟩
def J1 (w:World)(v:Value)(N:List Jk)(L:Nat):Prop:=∃ T:List Jr,SlL w 8 encNode v T∧T.length=N.length∧∀ (i:Nat) (t:Jr) (s:Jk),T[i]?=some t→N[i]?=some s→Kl w t s L
theorem J1.grow {w w':World}{v:Value}{N:List Jk}{L:Nat}(h:J1 w v N L)(g:Gr w w'):J1 w' v N L:=by
 obtain⟨T,b,c,d⟩:=h;exact⟨T,b.grow g,c,fun i t x f j=>(d i t x f j).grow g⟩
theorem J1.parts {w:World}{v:Value}{N:List Jk}{L:Nat}(h:J1 w v N L):∃ p c,v = .slice p N.length c∧N.length≤c∧c≤9223372036854775807:=by
 obtain⟨T,b,d,f⟩:=h;rw[← d];exact b.parts
end Prf
end Go.Proofs.YtcjgimlcefhhmaaGreatDoor
namespace Go.Proofs.YtcjgimlcefhhmaaGreatDoor
namespace Prf
open Go.RowKit Go.Lib
def Jb (P:Prop)(r:Value):Prop:=∃ t:Bool,r = .bool t∧(t=true↔P)
theorem Jb.yes {P:Prop}(h:P):Jb P (.bool true):=⟨true,rfl,by simp[h]⟩
theorem Jb.no {P:Prop}(h:¬ P):Jb P (.bool false):=⟨false,rfl,by simp[h]⟩
theorem Jb.cases {P:Prop}{r:Value}(h:Jb P r):(r = .bool true∧P)∨(r = .bool false∧¬ P):=by
 obtain⟨t,rfl,b⟩:=h
 cases t
 ·exact .inr ⟨rfl,fun h=>by have:=b.2 h;cases this⟩
 ·exact .inl ⟨rfl,b.1 rfl⟩
theorem Jb.iff {P Q:Prop}{r:Value}(h:Jb P r)(e:P↔Q):Jb Q r:=by
 obtain⟨t,rfl,b⟩:=h;exact⟨t,rfl,b.trans e⟩
theorem Ql (w:World)(n:Int):Calls Tryz.prog 31 #[.int .i64 n] w fun e w'=>∃ r,e = .returned r∧w=w'∧Jb (In n) r:=by
 by_cases b : -1099511627776≤n
 ·by_cases c:n≤1099511627776
  ·have H:=Z (show In n from⟨b,c⟩);go_enter Tryz.func31,Tryz.ntmps31;go_wp2_with fail;go_ret;exact⟨_,rfl,rfl,by simpa[b,c] using Jb.yes H.o⟩
  ·have H:=Z (show ¬ In n from fun h=>c h.2);go_enter Tryz.func31,Tryz.ntmps31;go_wp2_with fail;go_ret;exact⟨_,rfl,rfl,by simpa[b,c] using Jb.no H.o⟩
 ·have H:=Z (show ¬ In n from fun h=>b h.1);go_enter Tryz.func31,Tryz.ntmps31;go_wp2_with fail;go_ret;exact⟨_,rfl,rfl,by simpa[b] using Jb.no H.o⟩
def rowV (x:RowM):Value:=.agg #[.string ⟨x.name.toArray⟩,.int .i64 x.group,.int .i64 x.kind,.slice x.tp x.terms.length x.tc,.int .i64 x.bound]
theorem Lg.big {w:World}{p:Option Addr}{c:Nat}{l:List Ji}(h:Lg w (.slice p l.length c) l):l.length≤c∧c≤9223372036854775807:=by
 obtain⟨p',c',e,b,d⟩:=SlL.parts h
 cases e;exact⟨b,d⟩
theorem M5 {n:Nat}:∀ (l:List Ji) (b:Int) (k:Nat) (t:Ji),l[k]?=some t→Inc n b l→(b < t.v∧t.v < (n:Int)∧t.c≠0∧In t.c)
 | x :: l,b,0,t,ht,h=>by simp at ht;subst ht;exact h.1
 | x :: l,b,k+1,t,ht,h=>by
  have c:=M5 l x.v k t (by simpa using ht) h.2;have d:=h.1.1;exact⟨by omega,c.2⟩
theorem Yn {n:Nat}(t:Ji):∀ (l:List Ji) (b:Int),Inc n b l→(∀ x,l.getLast?=some x→x.v < t.v)→(l=[]→b < t.v)→t.v < (n:Int)→t.c≠0→In t.c→Inc n b (l ++ [t])
 | [],b,_,_,h2,h3,h4,h5=>⟨⟨h2 rfl,h3,h4,h5⟩,trivial⟩
 | x :: l,b,h,h1,h2,h3,h4,h5=>⟨h.1,Yn t l x.v h.2 (fun y c=>h1 y (by cases l<;>simp_all)) (fun e=>h1 x (by subst e;rfl)) h3 h4 h5⟩
def lastV (l:List Ji)(k:Nat):Int:=match (l.take k).getLast? with
 | some t=>t.v
 | none => -1
theorem Y6 {l:List Ji}{k:Nat}{t:Ji}(h:l[k]?=some t):lastV l (k+1)=t.v:=by
 unfold lastV;have b:=(List.getElem?_eq_some_iff.1 h).1;rw[List.take_succ_eq_append_getElem b];have:l[k]=t:=(List.getElem?_eq_some_iff.1 h).2;simp[this]
theorem Yl {n:Nat}{l:List Ji}{k:Nat}{t:Ji}(c:l[k]?=some t)(h:Inc n (-1) (l.take k))(b:lastV l k < t.v)(d:t.v < (n:Int))(f:t.c≠0)(g:In t.c):Inc n (-1) (l.take (k+1)):=by
 have i:=(List.getElem?_eq_some_iff.1 c).1;rw[List.take_succ_eq_append_getElem i];have e:l[k]=t:=(List.getElem?_eq_some_iff.1 c).2;rw[e];unfold lastV at b;refine Yn t _ _ h (fun x j=>?_) (fun e=>?_) d f g
 ·rw[j] at b;exact b
 ·rw[e] at b;exact b
theorem Rf {n:Nat}{l:List Ji}{k:Nat}{t:Ji}(b:l[k]?=some t)(h:¬ (lastV l k < t.v∧t.v < (n:Int)∧t.c≠0∧In t.c)):¬ Inc n (-1) l:=fun d=>h (by
 have c:=M5 l (-1) k t b d;refine⟨?_,c.2⟩;unfold lastV
 cases k with
 | zero=>simpa using c.1
 | succ k=>
  have f:=(List.getElem?_eq_some_iff.1 b).1;rw[List.take_succ_eq_append_getElem (by omega),List.getLast?_append,List.getLast?_singleton];exact inc_two l (-1) k t (l[k]) (List.getElem?_eq_getElem (by omega)) b d)
where inc_two {n:Nat}:∀ (l:List Ji) (last:Int) (k:Nat) (t x:Ji),l[k]?=some x→l[k+1]?=some t→Inc n last l→x.v < t.v
 | y :: l,last,0,t,x,hx,ht,h=>by
  simp at hx;subst hx;exact(M5 l y.v 0 t (by simpa using ht) h.2).1
 | y :: l,last,k+1,t,x,hx,ht,h=>inc_two l y.v k t x (by simpa using hx) (by simpa using ht) h.2
theorem J5H (w:World)(n:Nat)(x:RowM)(hn:n≤1000000)(L:L2 w x)(F:RowI x.s)(hl:x.name.length≤1000000):
  Calls Tryz.prog 15 #[.int .i64 (n:Int),rowV x] w (Ret w fun r _=>Jb (J2 n x.s) r):=by
 have B:=Ja.new w #[.string ⟨x.name.toArray⟩,.int .i64 x.group,.int .i64 x.kind,.slice x.tp x.terms.length x.tc,.int .i64 x.bound] 42;obtain⟨j,R⟩:=Z2 B (SlL.grow L B.1);have d:=Lg.big L;have HI:=Z F;clear B L F;unfold rowV;have a2:=Z HI.o.2.2.1;go_enter Tryz.func15,Tryz.ntmps15;go_wp2_with fail;any_goals(go_ret;exact⟨_,rfl,j.o.1,Jb.no fun k=>by
  obtain⟨⟨q1,q2⟩,⟨q3,q4⟩,q5,-⟩:=k;simp only[RowM.s] at q1 q2 q3 q4 q5;omega⟩)
 have C:=Z (show(0≤x.s.kind∧x.s.kind≤2)∧(0≤x.s.group∧x.s.group≤60)∧x.s.name.length≤80 by simp only[RowM.s];omega);generalize w.heap.size=bp at j ⊢;generalize w.alloc _=W at j R ⊢;obtain⟨G,m⟩:=Z2 j.o.1 j.o.2;clear j;have x0:=m.o.at 0 rfl;have x1:=m.o.at 1 rfl;have x2:=m.o.at 2 rfl;have x3:=m.o.at 3 rfl;have x4:=m.o.at 4 rfl;refine(Ql W x.bound).mono ?_;rintro _ _ ⟨r,rfl,rfl,h⟩;rcases h.cases with⟨rfl,f⟩|⟨rfl,f⟩;rotate_left
 ·have H:=Z (show ¬ J2 n x.s from fun h=>f h.2.2.2.1);clear h f;go_wp2_with fail;try rw[Exit.noGoto_ret]
  go_ret;exact⟨_,rfl,G.o,Jb.no H.o⟩
 have Y:=Z (show In x.s.bound from f);clear h f;go_wp2_with fail;go_loopw [5] (fun i M=>∃ k:Nat,i = .int .i64 (k:Int)∧k≤x.name.length∧(∀ b ∈ x.name.take k,32≤b∧b≤126)∧M=W) (fun i _=>x.name.length - (RowKit.intOf i).toNat)
 case atStart=>exact⟨0,rfl,Nat.zero_le _,fun b d=>by simp at d,rfl⟩
 case round=>
  obtain⟨k,rfl,hk,u,rfl⟩:=hrel;have s:=Z u;clear u;by_cases I:k < x.name.length
  ·have a1:(k:Int) < (x.name.length:Int):=by omega
   obtain⟨c,g⟩:∃ c,x.name[k]=c:=⟨_,rfl⟩
   have F:∀ h,(⟨x.name.toArray⟩:ByteArray)[k]'h=c:=fun h=>by show x.name.toArray[k]=_;simp[g]
   obtain⟨O,HS⟩:=Z2 (show c ∈ x.name by rw[← g];exact List.getElem_mem _) (show x.name.take (k+1)=x.name.take k ++ [c] by rw[List.take_succ_eq_append_getElem I,g]);clear g;have a0:IntKind.i64.wrap ((k:Int)+1)=(k:Int)+1:=by rw[IntKind.wrap_i64];omega
   by_cases E:(c.toNat:Int) < 32
   ·have H:=Z (show ¬ J2 n x.s from fun h=>by
     have:=(h.2.2.2.2.1 c O.o).1;have:=UInt8.le_iff_toNat_le.1 this;simp at this;omega)
    go_wp2_with fail;try rw[Exit.noGoto_ret]
    go_ret;exact⟨_,rfl,G.o,Jb.no H.o⟩
   ·by_cases c2:(126:Int) < (c.toNat:Int)
    ·have H:=Z (show ¬ J2 n x.s from fun h=>by
      have:=(h.2.2.2.2.1 c O.o).2;have:=UInt8.le_iff_toNat_le.1 this;simp at this;omega)
     go_wp2_with fail;try rw[Exit.noGoto_ret]
     go_ret;exact⟨_,rfl,G.o,Jb.no H.o⟩
    ·have HC:=Z (show 32≤c∧c≤126 from⟨UInt8.le_iff_toNat_le.2 (by simp;omega),UInt8.le_iff_toNat_le.2 (by simp;omega)⟩);have a3:(32:Int)≤(c.toNat:Int):=by omega
     have a4:(c.toNat:Int)≤126:=by omega
     clear E c2;go_wp2_with fail;refine⟨⟨k+1,by go_num,by omega,fun b d=>?_,by first|rfl|trivial⟩,by simp[RowKit.intOf];omega⟩;rw[HS.o] at d;rcases List.mem_append.1 d with d|d
     ·exact s.o b d
     ·obtain rfl:=List.mem_singleton.1 d;exact HC.o
  ·obtain rfl:k=x.name.length:=by omega
   have HN:=Z (show ∀ b ∈ x.s.name,32≤b∧b≤126 from fun b d=>s.o b (by rw[List.take_length];exact d));go_wp2_with fail;clear x0 x1 x2 x3 x4;go_loopw [6,7] (fun i v M=>∃ k:Nat,i = .int .i64 (lastV x.terms k)∧v = .int .i64 (k:Int)∧k≤x.terms.length∧Inc n (-1) (x.terms.take k)∧Gr wr M) (fun i v _=>x.terms.length - (RowKit.intOf v).toNat)
   case atStart=>exact⟨0,rfl,rfl,Nat.zero_le _,trivial,Gr.refl _⟩
   case round=>
    obtain⟨k,rfl,rfl,hk,u,S⟩:=hrel;obtain⟨s,p⟩:=Z2 u S;clear u S;have V:=(m.o.grow p.o).at 3 rfl;by_cases I:k < x.terms.length
    ·have a1:(k:Int) < (x.terms.length:Int):=by omega
     obtain⟨b,o,t,T,U,g⟩:=O0 (SlL.grow R.o p.o) rfl I;rw[T] at V;obtain⟨c0,E⟩:=g _ (Gr.refl _);have y:=Z U;obtain⟨lv,J⟩:∃ l,lastV x.terms k=l:=⟨_,rfl⟩
     rw[J];have N:=Z J;clear g U T J;go_wp2_with fail;any_goals(go_ret;refine⟨_,rfl,(G.o.trans p.o).alloc _,Jb.no fun h=>Rf y.o (fun q=>?_) h.2.2.2.2.2⟩;rw[N.o] at q;omega)
     obtain⟨D,z⟩:=Z2 (show lastV x.terms k < t.v∧t.v < (n:Int)∧t.c≠0 from⟨by rw[N.o];omega,by omega,by assumption⟩) (Ja.new wr #[.int .i64 t.v,.int .i64 t.c] 75);have A:=Z (p.o.trans z.o.1);have X:=z.o.2.at 0 rfl;generalize wr.heap.size=bt at X ⊢;generalize wr.alloc _=W2 at A X ⊢;clear z V c0 E;refine(Ql W2 t.c).mono ?_;rintro _ _ ⟨r,rfl,rfl,h⟩;rcases h.cases with⟨rfl,f⟩|⟨rfl,f⟩
     ·have HK:=Z f;clear h f;have a0:IntKind.i64.wrap ((k:Int)+1)=(k:Int)+1:=by rw[IntKind.wrap_i64];omega
      go_wp2_with fail;any_goals(rename_i hh;exfalso;simp only[beq_iff_eq] at hh;omega)
      exact⟨⟨k+1,by rw[Y6 y.o],by go_num,by omega,Yl y.o s.o D.o.1 D.o.2.1 D.o.2.2 HK.o,A.o⟩,by simp[RowKit.intOf];omega⟩
     ·have H:=Z (show ¬ J2 n x.s from fun h=>Rf y.o (fun q=>f q.2.2.2) h.2.2.2.2.2);clear h f;go_wp2_with fail;try rw[Exit.noGoto_ret]
      go_ret;exact⟨_,rfl,G.o.trans A.o,Jb.no H.o⟩
    ·obtain rfl:k=x.terms.length:=by omega
     go_wp2_with fail;go_ret;exact⟨_,rfl,G.o.trans p.o,Jb.yes ⟨C.o.1,C.o.2.1,C.o.2.2,Y.o,HN.o,by have:=s.o;rwa [List.take_length] at this⟩⟩
theorem Uv (w:World)(v:Value)(p:Prg)(hp:Js w v p)(m:PrgI p)(hl:∀ r ∈ p.rows,r.name.length≤1000000)(hn:p.vars.length≤1000000)(hm:p.rows.length≤1000000):
  Calls Tryz.prog 52 #[v] w (Ret w fun r _=>Jb (Jo p) r):=by
 obtain⟨HI,HL⟩:=Z2 m hl;clear m hl;obtain⟨va,vc,vb,vd,rfl,I,F⟩:=hp;obtain⟨HV,HR⟩:=Z2 I F;obtain⟨_,_,_,b2,b3⟩:=SlL.parts I;obtain⟨_,_,_,b0,b1⟩:=F.parts;clear I F;have B0:=Ja.new w #[.slice va p.vars.length vc,.slice vb p.rows.length vd] 25;have u:=Z B0;unfold prgV;clear B0;go_enter Tryz.func52,Tryz.ntmps52;go_wp2_with fail;any_goals(go_ret;exact⟨_,rfl,u.o.1,Jb.no fun k=>by have:=k.1;have:=k.2.1;omega⟩)
 have HA:=Z (show p.vars.length≤400∧p.rows.length≤4000 by omega);generalize w.heap.size=bp at u ⊢;generalize w.alloc _=W at u ⊢;obtain⟨G,L⟩:=Z2 u.o.1 u.o.2;clear u;go_loopw [3] (fun i w9=>∃ k:Nat,i = .int .i64 (k:Int)∧k≤p.vars.length∧(∀ (j:Nat) (x:VarM),j < k→p.vars[j]?=some x→Ky x)∧Gr W w9) (fun i _=>p.vars.length - (RowKit.intOf i).toNat)
 case atStart=>exact⟨0,rfl,Nat.zero_le _,fun j x hj=>by omega,Gr.refl _⟩
 case round=>
  obtain⟨k,rfl,hk,E,D⟩:=hrel;obtain⟨y,d⟩:=Z2 E D;clear E D;have C:=(L.o.grow d.o).at 0 rfl;by_cases O:k < p.vars.length
  ·have a8:(k:Int) < (p.vars.length:Int):=by omega
   obtain⟨b,o,t,rfl,U,f⟩:=K5 (SlL.grow HV.o (G.o.trans d.o)) rfl O;obtain⟨c0,M,c2,c3,c4⟩:=f _ (Gr.refl _);obtain⟨HT,a9,S⟩:=Z3 U (HI.o.1 t (List.mem_of_getElem? U)) (show ¬ Ky t→¬ Jo p from fun h q=>h (q.2.2.1 t (List.mem_of_getElem? U)));have B2:=Ja.new wr #[.int .i64 t.lo,.int .i64 t.up,.bool t.op,.bool t.ig,.int .i64 t.cost] 62;have X:=Z B2;clear f U B2;go_wp2_with fail;clear C c0 M c2 c3 c4;obtain⟨n,A⟩:=Z2 (d.o.trans X.o.1) X.o.2;clear X;generalize wr.heap.size=bt at A ⊢;generalize wr.alloc _=Y at n A ⊢;have C:=A.o.at 0 rfl;have J:=A.o.at 1 rfl;have y2:=A.o.at 2 rfl;have y4:=A.o.at 4 rfl;refine(Ql Y t.lo).mono ?_;rintro _ _ ⟨r,rfl,rfl,h⟩;rcases h.cases with⟨rfl,c⟩|⟨rfl,c⟩;rotate_left
   ·have H:=Z (S.o (fun h=>c h.1));clear h c;go_wp2_with fail;try rw[Exit.noGoto_ret]
    go_ret;exact⟨_,rfl,G.o.trans n.o,Jb.no H.o⟩
   have H1:=Z c;clear h c;go_wp2_with fail;refine(Ql Y t.up).mono ?_;rintro _ _ ⟨r,rfl,rfl,h⟩;rcases h.cases with⟨rfl,c⟩|⟨rfl,c⟩;rotate_left
   ·have H:=Z (S.o (fun h=>c h.2.1));clear h c;go_wp2_with fail;try rw[Exit.noGoto_ret]
    go_ret;exact⟨_,rfl,G.o.trans n.o,Jb.no H.o⟩
   have H2:=Z c;clear h c;go_wp2_with fail;refine(Ql Y t.cost).mono ?_;rintro _ _ ⟨r,rfl,rfl,h⟩;rcases h.cases with⟨rfl,c⟩|⟨rfl,c⟩;rotate_left
   ·have H:=Z (S.o (fun h=>c h.2.2.1));clear h c;go_wp2_with fail;try rw[Exit.noGoto_ret]
    go_ret;exact⟨_,rfl,G.o.trans n.o,Jb.no H.o⟩
   have H3:=Z c;clear h c;have a7:IntKind.i64.wrap ((k:Int)+1)=(k:Int)+1:=by rw[IntKind.wrap_i64];omega
   by_cases l:t.op=true∧t.up≠0
   ·have e1:t.op=true:=l.1;have e2:(t.up != 0)=true:=by simpa using l.2
    have H:=Z (S.o (fun h=>h.2.2.2 l));rw[e1] at y2;clear l;go_wp2_with fail;try rw[Exit.noGoto_ret]
    go_ret;exact⟨_,rfl,G.o.trans n.o,Jb.no H.o⟩
   ·have a4:=Z (show Ky t from⟨H1.o,H2.o,H3.o,l⟩);have R:Hd (∀ (j:Nat) (x:VarM),j < k+1→p.vars[j]?=some x→Ky x):=Z fun j x hj s=>by
     by_cases e:j=k
     ·subst e;rw[HT.o] at s
      cases s
      exact a4.o
     ·exact y.o j x (by omega) s
    obtain⟨op,T⟩:∃ b,t.op=b:=⟨_,rfl⟩
    rw[T] at y2
    cases op
    ·clear l T;go_wp2_with fail;exact⟨⟨k+1,by go_num,by omega,R.o,n.o⟩,by simp[RowKit.intOf];omega⟩
    ·have e2:(t.up != 0)=false:=by
      have:t.up=0:=Classical.not_not.1 fun h=>l ⟨T,h⟩;simpa using this
     clear l T;go_wp2_with fail;exact⟨⟨k+1,by go_num,by omega,R.o,n.o⟩,by simp[RowKit.intOf];omega⟩
  ·obtain rfl:k=p.vars.length:=by omega
   have a6:=Z (show ∀ v ∈ p.vars,Ky v from fun v I=>by
    obtain⟨i,m,rfl⟩:=List.getElem_of_mem I;exact y.o i _ m (List.getElem?_eq_getElem m))
   go_wp2_with fail;clear C;go_loopw [5] (fun i w9=>∃ k:Nat,i = .int .i64 (k:Int)∧k≤p.rows.length∧(∀ (j:Nat) (x:RowS),j < k→p.rows[j]?=some x→J2 p.vars.length x)∧Gr W w9) (fun i _=>p.rows.length - (RowKit.intOf i).toNat)
   case atStart=>exact⟨0,rfl,Nat.zero_le _,fun j x hj=>by omega,d.o⟩
   case round=>
    clear y d O hk;obtain⟨k,rfl,hk,E,D⟩:=hrel;obtain⟨y,d⟩:=Z2 E D;clear E D;have J:=(L.o.grow d.o).at 1 rfl;by_cases O:k < p.rows.length
    ·have a8:(k:Int) < (p.rows.length:Int):=by omega
     obtain⟨b,o,x,rfl,s,a1,f⟩:=(HR.o.grow (G.o.trans d.o)).at O;have c0:=fun w' g=>(f w' g).1;have M:=fun w' g=>(f w' g).2.1;have c2:=fun w' g=>(f w' g).2.2.1;have c3:=fun w' g=>(f w' g).2.2.2.1;have c4:=fun w' g=>(f w' g).2.2.2.2;obtain⟨HX,a2⟩:=Z2 s a1;have a0:=List.mem_of_getElem? s;obtain⟨a5,a3⟩:=Z2 (HI.o.2 _ a0) (HL.o _ a0);clear f s a1 a0;go_wp2_with fail;clear J;have C:=(L.o.grow d.o).c 0 rfl;have J:=(L.o.grow d.o).c 1 rfl;have B:Gr wr wr.drew:=(Gr.refl _).drew;have G9:=Z B;refine Jl [(0,true),(1,true),(2,true),(3,true),(4,true),(5,true),(6,true),(7,true),(8,false),(9,true)] ?_;repeat(refine Jc B (h:=?_))
     refine Je (k:=J5H _ p.vars.length x hn (SlL.grow a2.o G9.o) a5.o a3.o) (h:=?_);rintro r w2 N h;rcases h.cases with⟨rfl,c⟩|⟨rfl,c⟩
     ·have g3:=B.trans N;have V:=Z (d.o.trans g3);have R:=Z (show ∀ (j:Nat) (z:RowS),j < k+1→p.rows[j]?=some z→J2 p.vars.length z from fun j z hj hz=>by
       by_cases e:j=k
       ·subst e;rw[HX.o] at hz
        cases hz
        exact c
       ·exact y.o j z (by omega) hz)
      repeat(refine Jc g3 (h:=?_))
      refine Jg ?_;clear h c c0 M c2 c3 c4 C J B N g3;have a7:IntKind.i64.wrap ((k:Int)+1)=(k:Int)+1:=by rw[IntKind.wrap_i64];omega
      go_wp2_with fail;exact⟨⟨k+1,by go_num,by omega,R.o,V.o⟩,by simp[RowKit.intOf];omega⟩
     ·have g3:=B.trans N;obtain⟨V,H⟩:=Z2 (d.o.trans g3) (show ¬ Jo p from fun q=>c (q.2.2.2 _ (List.mem_of_getElem? HX.o)));repeat(refine Jc g3 (h:=?_))
      refine Jg ?_;clear h c c0 M c2 c3 c4 C J B N g3;go_wp2_with fail;try rw[Exit.noGoto_ret]
      go_ret;exact⟨_,rfl,G.o.trans V.o,Jb.no H.o⟩
    ·obtain rfl:k=p.rows.length:=by omega
     go_wp2_with fail;go_ret;exact⟨_,rfl,G.o.trans d.o,Jb.yes ⟨HA.o.1,HA.o.2,a6.o,fun r F=>by
      obtain⟨i,m,rfl⟩:=List.getElem_of_mem F;exact y.o i _ m (List.getElem?_eq_getElem m)⟩⟩
theorem J5M (w:World)(v:Value)(p:Prg)(D:Js w v p)(d:PrgI p)(C:∀ r ∈ p.rows,r.name.length≤1000000)(hn:p.vars.length≤1000000)(Y:p.rows.length≤1000000):
  Calls Tryz.prog 25 #[v] w (Ret w fun r _=>Jb (Whole p∧Jo p) r):=by
 obtain⟨N,O,R⟩:=Z3 d C D;clear d C;obtain⟨va,vc,vb,vd,rfl,f,n⟩:=D;obtain⟨S,HR⟩:=Z2 f n;obtain⟨_,_,_,a4,a5⟩:=SlL.parts f;obtain⟨_,_,_,a2,a3⟩:=n.parts;clear f n;have u:=Ja.new w #[.slice va p.vars.length vc,.slice vb p.rows.length vd] 25;have c:=Z u;unfold prgV;clear u;go_enter Tryz.func25,Tryz.ntmps25;go_wp2_with fail;generalize w.heap.size=bp at c ⊢;generalize w.alloc _=W at c ⊢;obtain⟨G,z⟩:=Z2 c.o.1 c.o.2;clear c;go_loopw [3] (fun i w9=>∃ k:Nat,i = .int .i64 (k:Int)∧k≤p.vars.length∧(∀ (j:Nat) (x:VarM),j < k→p.vars[j]?=some x→x.ig=true∧x.op=false)∧w9=W) (fun i _=>p.vars.length - (RowKit.intOf i).toNat)
 case atStart=>exact⟨0,rfl,Nat.zero_le _,fun j x V=>by omega,rfl⟩
 case round=>
  obtain⟨k,rfl,hk,E,rfl⟩:=hrel;have y:=Z E;clear E;have y0:=z.o.at 0 rfl;by_cases X:k < p.vars.length
  ·have a1:(k:Int) < (p.vars.length:Int):=by omega
   obtain⟨b,o,t,rfl,F,B⟩:=K5 (SlL.grow S.o G.o) rfl X;obtain⟨c0,U,c2,c3,c4⟩:=B _ (Gr.refl _);have g:=Z F;have a0:IntKind.i64.wrap ((k:Int)+1)=(k:Int)+1:=by rw[IntKind.wrap_i64];omega
   clear B F c0 U c4;obtain⟨I,l⟩:∃ b,t.ig=b:=⟨_,rfl⟩
   obtain⟨J,m⟩:∃ b,t.op=b:=⟨_,rfl⟩
   rw[l] at c3;rw[m] at c2;have c:=Z (show t.ig=I∧t.op=J from⟨l,m⟩);clear l m
   cases I
   ·have H:=Z (show ¬ (Whole p∧Jo p) from fun q=>by
     have:=(q.1 t (List.mem_of_getElem? g.o)).1;rw[c.o.1] at this;cases this)
    go_wp2_with fail;try rw[Exit.noGoto_ret]
    go_ret;exact⟨_,rfl,G.o,Jb.no H.o⟩
   ·cases J
    ·go_wp2_with fail;refine⟨⟨k+1,by go_num,by omega,fun j x V s=>?_,by first|rfl|trivial⟩,by simp[RowKit.intOf];omega⟩;by_cases e:j=k
     ·subst e;rw[g.o] at s
      cases s
      exact c.o
     ·exact y.o j x (by omega) s
    ·have H:=Z (show ¬ (Whole p∧Jo p) from fun q=>by
      have:=(q.1 t (List.mem_of_getElem? g.o)).2;rw[c.o.2] at this;cases this)
     go_wp2_with fail;try rw[Exit.noGoto_ret]
     go_ret;exact⟨_,rfl,G.o,Jb.no H.o⟩
  ·obtain rfl:k=p.vars.length:=by omega
   have T:=Z (show Whole p from fun v f=>by
    obtain⟨i,d,rfl⟩:=List.getElem_of_mem f;exact y.o i _ d (List.getElem?_eq_getElem d))
   have y1:=z.o.at 1 rfl;go_wp2_with fail;refine(Uv _ _ p (R.o.grow G.o) N.o O.o hn Y).mono ?_;rintro _ w2 ⟨r,rfl,A,h⟩;obtain⟨M,L⟩:=Z2 (show Jb (Whole p∧Jo p) r from h.iff ⟨fun q=>⟨T.o,q⟩,fun q=>q.2⟩) (G.o.trans A);clear h A;go_wp2_with fail;go_ret;exact⟨_,rfl,L.o,M.o⟩
end Prf
end Go.Proofs.YtcjgimlcefhhmaaGreatDoor
namespace Go.Proofs.YtcjgimlcefhhmaaGreatDoor
open Go.RowKit
section put
variable {α:Type}{enc:α→List Value}{sz:Nat}
theorem Tl (b:∀ x,(enc x).length=sz):∀ (l:List α) (k:Nat) (x y:α) (j:Nat) (u:Value),l[k]?=some x→j < sz→enc y=(enc x).set j u→(l.set k y).flatMap enc=(l.flatMap enc).set (k * sz+j) u
 | [],k,x,y,j,u,h,_,_=>by simp at h
 | z :: l,0,x,y,j,u,h,hj,hy=>by
  simp at h;subst h;rw[List.set_cons_zero,List.flatMap_cons,List.flatMap_cons,hy,List.set_append_left _ _ (by rw[b];omega)];simp
 | z :: l,k+1,x,y,j,u,h,hj,hy=>by
  have c:=Tl b l k x y j u (by simpa using h) hj hy;rw[List.set_cons_succ,List.flatMap_cons,List.flatMap_cons,c,List.set_append_right _ _ (by rw[b,Nat.add_mul];omega),b];congr 2;rw[Nat.add_mul];omega
theorem OwnL.put {w:World}{base:Nat}{e:TypeId}{v:Value}{l:List α}(c:∀ x,(enc x).length=sz)(h:OwnL w base e sz enc v l){k:Nat}{x y:α}{j:Nat}{u:Value}(f:l[k]?=some x)(m:j < sz)(s:enc y=(enc x).set j u):
  ∃ g b,v = .slice (some ⟨g,0,none⟩) l.length b∧base≤g∧g < w.heap.size∧w.cell? ⟨g,k * sz+j,none⟩=(enc x)[j]?∧w.frozen? ⟨g,k * sz+j,none⟩=false∧OwnL (w.setCell ⟨g,k * sz+j,none⟩ u) base e sz enc v (l.set k y):=by
 have C:k < l.length:=(List.getElem?_eq_some_iff.1 f).1;have H:=K4 c l;have D:k * sz+j < l.length * sz:=by
  have:(k+1) * sz≤l.length * sz:=Nat.mul_le_mul_right _ C;rw[Nat.add_mul] at this;omega
 obtain⟨t,z⟩:=h;rcases z with⟨rfl,F⟩|⟨g,b,i,rfl,n,d,p,E,q,r⟩
 ·omega
 ·have G:k * sz+j < i.size:=by rw[q];exact Nat.lt_of_lt_of_le D (Nat.mul_le_mul_right _ p)
  have B:=(Array.getElem?_eq_some_iff.1 d).1;have A:i[k * sz+j]?=(enc x)[j]?:=by
   rw[← Om c l k x j f m,← r,List.getElem?_take_of_lt (by omega)];simp
  refine⟨g,b,rfl,n,B,?_,?_,?_,?_⟩
  ·unfold World.cell?;rw[show(⟨g,k * sz+j,none⟩:Addr).block=g from rfl,d];exact A
  ·unfold World.frozen?;rw[show(⟨g,k * sz+j,none⟩:Addr).block=g from rfl,d];simp
  ·rw[Tl c l k x y j u f m s,List.length_set,List.length_set];exact t
  ·rw[List.length_set];refine .inr ⟨g,b,i.setIfInBounds (k * sz+j) u,rfl,n,?_,p,E,by simpa using q,?_⟩
   ·simp[World.setCell,Array.getElem?_modify,d]
   ·rw[Tl c l k x y j u f m s,← r];simp[List.take_set]
theorem OwnL.putS {w:World}{base:Nat}{e:TypeId}{g n c:Nat}{l:List α}(q:∀ x,(enc x).length=sz)(h:OwnL w base e sz enc (.slice (some ⟨g,0,none⟩) n c) l){k:Nat}{x:α}(y:α)(j:Nat)(u:Value)(s:l[k]?=some x)(r:j < sz)(t:enc y=(enc x).set j u):
  base≤g∧g < w.heap.size∧w.cell? ⟨g,k * sz+j,none⟩=(enc x)[j]?∧w.frozen? ⟨g,k * sz+j,none⟩=false∧OwnL (w.setCell ⟨g,k * sz+j,none⟩ u) base e sz enc (.slice (some ⟨g,0,none⟩) n c) (l.set k y):=by
 obtain⟨z,v,b,d,f,i,m,p⟩:=OwnL.put q h s r t;injection b with b _ _;injection b with b;injection b with b;subst b;exact⟨d,f,i,m,p⟩
theorem OwnL.made {w:World}{base:Nat}{e:TypeId}{v:Value}{l:List α}(h:OwnL w base e sz enc v l)(p:0 < l.length):∃ g b,v = .slice (some ⟨g,0,none⟩) l.length b∧base≤g∧g < w.heap.size∧l.length≤b∧b≤9223372036854775807:=by
 obtain⟨n,c⟩:=h;rcases c with⟨rfl,m⟩|⟨g,b,k,rfl,d,f,j,i,q,r⟩
 ·omega
 ·exact⟨g,b,rfl,d,(Array.getElem?_eq_some_iff.1 f).1,j,by simpa[maxLen] using i⟩
theorem OwnL.other {w:World}{base:Nat}{e:TypeId}{v u:Value}{l:List α}{b i:Nat}(h:OwnL w base e sz enc v l)(d:v.ownBlock≠some b):OwnL (w.setCell ⟨b,i,none⟩ u) base e sz enc v l:=by
 refine World.ownsRow.kept (row:=some b) h ⟨rfl,rfl,rfl,?_,fun k f c=>Below.heap_setCell _ _ _ _ (fun e=>c (congrArg some e))⟩ (.inr d);simp[World.setCell]
end put
end Go.Proofs.YtcjgimlcefhhmaaGreatDoor
namespace Go.Proofs.YtcjgimlcefhhmaaGreatDoor
namespace Prf
open Go.RowKit
def Jq (w:World)(b n:Nat)(a:Nat→Rat)(L:Nat):Prop:=∃ T:List RatM,Ja w b (T.flatMap encRat).toArray∧T.length=n∧∀ (i:Nat) (t:RatM),T[i]?=some t→RatV w t.v (a i) L
theorem J30:∀ (T:List RatM) (i:Nat) (k:IntKind) (z:Int),(T.flatMap encRat)[i]?≠some (Value.int k z):=fun T i k z h=>by
 have:=List.mem_of_getElem? h;obtain⟨t,_,b⟩:=List.mem_flatMap.1 this;simp[encRat] at b
theorem Jq.noInt {w:World}{b n:Nat}{a:Nat→Rat}{L:Nat}(h:Jq w b n a L):Kp w b:=by
 obtain⟨T,⟨t,d⟩,_,_⟩:=h;exact⟨_,t,d,fun i k z c=>J30 T i k z (by simpa using c)⟩
theorem Jq.grow {w w':World}{b n:Nat}{a:Nat→Rat}{L:Nat}(h:Jq w b n a L)(g:Gr w w'):Jq w' b n a L:=by
 obtain⟨T,c,d,f⟩:=h;exact⟨T,c.grow g,d,fun i t j=>(f i t j).grow g⟩
theorem Jq.upd {w w':World}{b b' n:Nat}{a:Nat→Rat}{L:Nat}(h:Jq w b n a L)(j:Kp w b')(c:Upd b' w w')(k:b≠b'):Jq w' b n a L:=by
 obtain⟨T,d,f,g⟩:=h;exact⟨T,d.upd c k,f,fun i t l=>(g i t l).upd j c⟩
theorem Jq.congr {w:World}{b n:Nat}{a c:Nat→Rat}{L:Nat}(h:Jq w b n a L)(e:∀ i,i < n→a i=c i):Jq w b n c L:=by
 obtain⟨T,f,g,j⟩:=h;exact⟨T,f,g,fun i t d=>by rw[← e i (by have:=(List.getElem?_eq_some_iff.1 d).1;omega)];exact j i t d⟩
theorem Jq.mono {w:World}{b n:Nat}{a:Nat→Rat}{L M:Nat}(h:Jq w b n a L)(p:L≤M):Jq w b n a M:=by
 obtain⟨T,c,f,g⟩:=h;exact⟨T,c,f,fun i t j=>by
  obtain⟨n,l,d,k,m,q,r⟩:=g i t j;exact⟨n,l,d,k,m,by omega,by omega⟩⟩
theorem Jq.at {w:World}{b n:Nat}{a:Nat→Rat}{L:Nat}(h:Jq w b n a L){k:Nat}(q:k < n):
  ∃ t,RatV w t.v (a k) L∧(∀ w',Gr w w'→Vv w' b (k * 3) t):=by
 obtain⟨T,i,p,l⟩:=h;obtain⟨t,d⟩:∃ t,T[k]?=some t:=⟨_,List.getElem?_eq_getElem (by omega)⟩
 refine⟨t,l k t d,fun w' g=>?_⟩;have c:∀ j u,(encRat t)[j]?=some u→w'.cell? ⟨b,k * 3+j,none⟩=some u:=fun j u f=>by
  have m:j < 3:=(List.getElem?_eq_some_iff.1 f).1;exact(i.grow g).at _ (by simpa using(Om L9 T k t j d m).trans f)
 exact⟨c 0 _ rfl,c 1 _ rfl,c 2 _ rfl⟩
theorem Jq.f {w:World}{b n:Nat}{a:Nat→Rat}{L:Nat}(h:Jq w b n a L)(i:Nat):w.frozen? ⟨b,i,none⟩=false:=by
 obtain⟨T,c,_,_⟩:=h;exact c.f i
def setRat (w:World)(b k:Nat)(t:RatM):World:=((w.setCell ⟨b,k * 3,none⟩ (.bool t.n)).setCell ⟨b,k * 3+1,none⟩ (.slice t.p t.k t.c)).setCell ⟨b,k * 3+2,none⟩ (.slice t.q t.m t.e)
theorem Nb (w:World)(b k:Nat)(t:RatM):Upd b w (setRat w b k t):=fun i c=>by
 unfold setRat;rw[Below.heap_setCell _ _ _ _ c,Below.heap_setCell _ _ _ _ c,Below.heap_setCell _ _ _ _ c]
theorem X8 (t:RatM):∀ (T:List RatM) (k:Nat),k < T.length→
  (((T.flatMap encRat).set (k * 3) (.bool t.n)).set (k * 3+1) (.slice t.p t.k t.c)).set (k * 3+2) (.slice t.q t.m t.e)=(T.set k t).flatMap encRat
 | [],k,h=>by simp at h
 | x :: T,0,_=>by simp[encRat]
 | x :: T,k+1,h=>by
  have b:=X8 t T k (by simpa using h);have e:(k+1) * 3=k * 3+1+1+1:=by omega
  rw[e,List.set_cons_succ,List.flatMap_cons,List.flatMap_cons,← b];simp[encRat]
theorem Jq.set {w:World}{b n:Nat}{a d:Nat→Rat}{L:Nat}(h:Jq w b n a L){k:Nat}(r:k < n){t:RatM}(q:RatV w t.v (d k) L)(e:∀ i,i < n→i≠k→a i=d i):Jq (setRat w b k t) b n d L:=by
 have g:=h.noInt;obtain⟨T,l,m,p⟩:=h;have j:=Nb w b k t;refine⟨T.set k t,?_,by simpa using m,fun i s c=>?_⟩
 ·have:=((l.set (k * 3) (.bool t.n)).set (k * 3+1) (.slice t.p t.k t.c)).set (k * 3+2) (.slice t.q t.m t.e);rw[← X8 t T k (by omega)];unfold setRat;simpa using this
 ·by_cases f:i=k
  ·subst f;rw[List.getElem?_set_self (by omega)] at c;obtain rfl:=Option.some.inj c;exact q.upd g j
  ·rw[List.getElem?_set_ne (by omega)] at c;have u:=(List.getElem?_eq_some_iff.1 c).1;rw[← e i (by omega) f];exact(p i s c).upd g j
theorem Jq.read {w:World}{b n:Nat}{a:Nat→Rat}{L:Nat}(h:Jq w b n a L)(i:n≤1000000000):Kq w (.slice (some ⟨b,0,none⟩) n n) n a L:=by
 obtain⟨T,d,c,f⟩:=h;refine⟨T,?_,c,f⟩;subst c;refine⟨K4 L9 T,_,_,rfl,Nat.le_refl _,by omega,.inr ⟨b,0,rfl,fun j u g=>?_⟩⟩;rw[Nat.zero_add];exact d.at j (by simpa using g)
def zeroRat:RatM:=⟨false,none,0,0,none,0,0⟩
theorem Qu (w:World)(L:Nat):RatV w zeroRat.v 0 L:=⟨false,[],[],⟨none,0,0,none,0,0,rfl,NatL.nil w,NatL.nil w⟩,by decide +kernel,Nat.zero_le _,Nat.zero_le _⟩
theorem Jq.zero {w:World}{b n:Nat}(L:Nat){c:Array Value}(h:Ja w b c)(f:c=((List.replicate n zeroRat).flatMap encRat).toArray):Jq w b n (fun _=>0) L:=by
 subst f;refine⟨_,h,by simp,fun i t d=>?_⟩;have:=List.mem_of_getElem? d;obtain rfl:=(List.mem_replicate.1 this).2;exact Qu w L
end Prf
end Go.Proofs.YtcjgimlcefhhmaaGreatDoor
namespace Go.Proofs.YtcjgimlcefhhmaaGreatDoor
open Go.RowKit
section append
variable {α:Type}{enc:α→List Value}{sz:Nat}{P:Program}{ops:Array Oper}{rest:List Oper}{o:Oper}{a:Act}{Q:Exit→Act→World→Prop}{w:World}
theorem Q1 (t ty e:TypeId)(z:Value)(bytes:Nat)(B:P.underlying t=some (.slice e))(a0:(P.info? e).map (fun i=>(i.zero,i.size,i.bytes))=some (some z,sz,bytes))(a5:z.cells.size=sz)(a4:0 < sz)(W:∀ x,(enc x).length=sz)(N:∀ x,∀ u ∈ enc x,u.oneCell'=true)
  (base:Nat) (v vx:Value) (l m:List α) (s:OwnL w base e sz enc v l) (hm:SlL w sz enc vx m)
  (D:(l.length+m.length) * bytes≤140737488355328) (a8:l.length+m.length≤1000000000000) (S:base≤w.heap.size) (a3:0 < m.length):
  ∃ d w',(Builtin.append_ #[t,t] ty #[v,vx]).run P w = .ok d w'∧OwnL w' base e sz enc d (l ++ m)∧w.grownBy w' v.ownBlock∧(d.ownBlock=v.ownBlock∨d.ownBlock=some w.heap.size):=by
 obtain⟨i0,q,F,J,L⟩:=info_parts a0;obtain⟨hd,p,c,rfl,k1,k2,k3⟩:=hm;rcases k3 with rfl|⟨b,n,rfl,U⟩
 ·omega
 ·have r:∀ j u,(m.flatMap enc)[j]?=some u→w.cell? ((⟨b,n,none⟩:Addr).add j)=some u:=fun j u E=>by rw[Nv];exact U j u E
  have H:∀ u ∈ m.flatMap enc,u.oneCell'=true:=fun u E=>by
   obtain⟨y,_,hy⟩:=List.mem_flatMap.1 E;exact N y u hy
  have h:=K4 W m;obtain⟨d,w',A,O,R,_⟩:=run_append_own (P:=P) w base t ty e i0 z sz bytes B q F J L a5 a4 v l.length (l.flatMap enc) s ⟨b,n,none⟩ m.length c (m.flatMap enc) h r H (by unfold maxLen;omega) D S;have T:d.ownBlock=v.ownBlock∨d.ownBlock=some w.heap.size:=by
   subst J;subst L;have a2:=s.2;rcases a2 with⟨rfl,M⟩|⟨g,C,G,rfl,a6,Y,a9,a7,V,b0⟩
   ·have k:=run_append_nil (P:=P) w t ty e i0 z B q F ⟨b,n,none⟩ m.length c (m.flatMap enc) h r a3 (by omega) (by have:=D;rw[M] at this;simp only[Nat.zero_add] at this;omega);have f:=A.symm.trans k;injection f with e2 e3;subst e2;exact .inr rfl
   ·by_cases I:l.length+m.length≤C
    ·have X:l.length * i0.size+(m.flatMap enc).length≤G.size:=by rw[h,V,← Nat.add_mul];exact Nat.mul_le_mul_right _ I
     have k:=run_append_room (P:=P) w t ty e i0 B q g l.length C G Y ⟨b,n,none⟩ m.length c (m.flatMap enc) h r H I X;have f:=A.symm.trans k;injection f with e2 e3;subst e2;exact .inl rfl
    ·have a1:∀ j u,(l.flatMap enc)[j]?=some u→w.cell? ((⟨g,0,none⟩:Addr).add j)=some u:=World.ownsRow.cells (show w.ownsRow base e i0.size _ l.length (l.flatMap enc) from s) (g:=g) rfl;have k:=run_append_grow (P:=P) w t ty e i0 z B q F ⟨g,0,none⟩ l.length C (l.flatMap enc) s.1 a1 ⟨b,n,none⟩ m.length c (m.flatMap enc) h r (by omega) (by omega) (growslice_fits (by omega) D);have f:=A.symm.trans k;injection f with e2 e3;subst e2;exact .inr rfl
  refine⟨d,w',A,?_,R,T⟩;unfold OwnL;rw[List.flatMap_append,List.length_append];exact O
end append
end Go.Proofs.YtcjgimlcefhhmaaGreatDoor
namespace Go.Proofs.YtcjgimlcefhhmaaGreatDoor
namespace Prf
open Go.RowKit
def Dk (w w':World):Prop:=∀ (b o:Nat) (z:Int),w.cell? ⟨b,o,none⟩=some (.int .u32 z)→w'.cell? ⟨b,o,none⟩=some (.int .u32 z)
theorem Dk.refl (w:World):Dk w w:=fun _ _ _ h=>h
theorem Dk.trans {a b c:World}(h:Dk a b)(k:Dk b c):Dk a c:=fun x y z d=>k x y z (h x y z d)
theorem Dk.gr {w w':World}(g:Gr w w'):Dk w w':=fun b o z h=>g.cell h
def NoU (w:World)(b:Nat):Prop:=∃ (a:Array Value) (t:TypeId),w.heap[b]?=some (.cells a t (0,0))∧∀ (i:Nat) (z:Int),a[i]?≠some (Value.int .u32 z)
theorem NoU.cell {w:World}{b o:Nat}{z:Int}(h:NoU w b):w.cell? ⟨b,o,none⟩≠some (.int .u32 z):=fun e=>by
 obtain⟨a,ty,t,c⟩:=h;simp only[World.cell?,t] at e;exact c _ _ e
theorem J01 {w:World}{b:Nat}(h:Kp w b):NoU w b:=by
 obtain⟨a,t,c,d⟩:=h;exact⟨a,t,c,fun i z=>d i _ z⟩
theorem NoU.of {w:World}{b:Nat}{c:Array Value}(h:Ja w b c)(d:∀ v ∈ c,∀ z,v≠Value.int .u32 z):NoU w b:=by
 obtain⟨t,h⟩:=h;exact⟨c,t,h,fun i z e=>d _ (Array.mem_of_getElem? e) z rfl⟩
theorem Dk.upd {w w':World}{b:Nat}(c:NoU w b)(f:Upd b w w'):Dk w w':=fun x o z h=>by
 have d:x≠b:=fun e=>by subst e;exact c.cell h
 rw[World.cell?_of_block (w:=w) (f x d)];exact h
theorem Dk.grown {w w':World}{row:Option Nat}(b:w.grownBy w' row)(f:∀ g,row=some g→NoU w g):Dk w w':=fun x o z h=>by
 have c:=World.block_lt_of_cell? (w:=w) _ h;have d:some x≠row:=fun e=>(f x e.symm).cell h;rw[World.cell?_of_block (w:=w) (b.block x c d)];exact h
theorem Ue {w w':World}{v:Value}{l:List Nat}(h:NatL w v l)(d:Dk w w'):NatL w' v l:=by
 obtain⟨g,p,c,rfl,j,k,f⟩:=h;refine⟨g,p,c,rfl,j,k,?_⟩;rcases f with f|⟨b,o,rfl,m⟩
 ·exact .inl f
 ·exact .inr ⟨b,o,rfl,fun i n=>d _ _ _ (m i n)⟩
theorem Rh {w w':World}{v:Value}{z:Int}(h:IntC w v z)(d:Dk w w'):IntC w' v z:=by
 obtain⟨p,k,c,rfl,h⟩:=h;exact⟨p,k,c,rfl,Ue h d⟩
theorem J0v {w w':World}{v:Value}{n:Bool}{l e:List Nat}(h:RatL w v n l e)(d:Dk w w'):RatL w' v n l e:=by
 obtain⟨p,k,c,q,m,f,rfl,b,g⟩:=h;exact⟨p,k,c,q,m,f,rfl,Ue b d,Ue g d⟩
theorem Pn {w w':World}{v:Value}{x:Rat}(h:RatC w v x)(d:Dk w w'):RatC w' v x:=J0v h d
theorem J5t {w w':World}{v:Value}{x:Rat}{L:Nat}(h:RatV w v x L)(d:Dk w w'):RatV w' v x L:=by
 obtain⟨n,l,e,b,c⟩:=h;exact⟨n,l,e,J0v b d,c⟩
theorem Ru {w w':World}{b n:Nat}{a:Nat→Rat}{L:Nat}(h:Jq w b n a L)(d:Dk w w')(j:w'.heap[b]?=w.heap[b]?):Jq w' b n a L:=by
 obtain⟨T,⟨t,c⟩,f,g⟩:=h;exact⟨T,⟨t,by rw[j];exact c⟩,f,fun i t k=>J5t (g i t k) d⟩
theorem K3 {w w':World}{b:Nat}{c:Array Value}(h:Ja w b c)(d:w'.heap[b]?=w.heap[b]?):Ja w' b c:=by
 obtain⟨t,h⟩:=h;exact⟨t,by rw[d];exact h⟩
theorem Ja.three {w:World}{b:Nat}{x y z:Value}(h:Ja w b #[x,y,z]):Jn w b x y z:=h
theorem fill5 {a w:World}{b:Nat}{f j k l m:Value}(u0 u1 u2 u3 u4:Value)(h:Ja w b #[f,j,k,l,m])(g:Gr a w)(n:a.heap.size≤b):
  Gr a (((((w.setCell ⟨b,0,none⟩ u0).setCell ⟨b,1,none⟩ u1).setCell ⟨b,2,none⟩ u2).setCell ⟨b,3,none⟩ u3).setCell ⟨b,4,none⟩ u4)∧
  Ja (((((w.setCell ⟨b,0,none⟩ u0).setCell ⟨b,1,none⟩ u1).setCell ⟨b,2,none⟩ u2).setCell ⟨b,3,none⟩ u3).setCell ⟨b,4,none⟩ u4) b #[u0,u1,u2,u3,u4]∧
  Upd b w (((((w.setCell ⟨b,0,none⟩ u0).setCell ⟨b,1,none⟩ u1).setCell ⟨b,2,none⟩ u2).setCell ⟨b,3,none⟩ u3).setCell ⟨b,4,none⟩ u4):=by
 have c:¬ b < a.heap.size:=by omega
 refine⟨Gr.set (Gr.set (Gr.set (Gr.set (Gr.set g c _) c _) c _) c _) c _,?_,fun i d=>?_⟩
 ·have:=((((h.set 0 u0).set 1 u1).set 2 u2).set 3 u3).set 4 u4;simpa using this
 ·rw[Below.heap_setCell _ _ _ _ d,Below.heap_setCell _ _ _ _ d,Below.heap_setCell _ _ _ _ d,Below.heap_setCell _ _ _ _ d,Below.heap_setCell _ _ _ _ d]
def Ju (w:World)(base:Nat)(v:Value)(l:List Ji):Prop:=OwnL w base 75 2 encTerm v l∧∀ g,v.ownBlock=some g→NoU w g
theorem Ju.grow {w w':World}{base:Nat}{v:Value}{l:List Ji}(h:Ju w base v l)(g:Gr w w'):Ju w' base v l:=by
 refine⟨h.1.grow g,fun b c=>?_⟩;obtain⟨a,t,d,f⟩:=h.2 b c;have i:=(h.1.lt b c).2;exact⟨a,t,by rw[Below.block g b i];exact d,f⟩
theorem Ju.same {w w':World}{base b:Nat}{v:Value}{l:List Ji}(h:Ju w base v l)(f:Upd b w w')(s:w'.heap.size=w.heap.size)(d:v.ownBlock≠some b)(n:w'.os=w.os)(q:w'.tape=w.tape)(p:w'.output=w.output):Ju w' base v l:=by
 refine⟨World.ownsRow.kept (row:=some b) h.1 ⟨n,q,p,by omega,fun k r m=>f k (fun e=>m (congrArg some e))⟩ (.inr d),fun g c=>?_⟩;obtain⟨a,t,i,j⟩:=h.2 g c;exact⟨a,t,by rw[f g (fun e=>d (by rw[c,e]))];exact i,j⟩
theorem Ju.nil (w:World)(base:Nat):Ju w base (.slice none 0 0) []:=⟨OwnL.nil w base _,fun g h=>by cases h⟩
theorem J1j:(Tryz.prog.info? 75).map (fun i=>(i.zero,i.size,i.bytes))=some (some (.agg #[.int .i64 0,.int .i64 0]),2,16):=by kernel_rfl
theorem Xx:∀ x,∀ u ∈ encTerm x,u.oneCell'=true:=fun x u b=>by
 simp[encTerm] at b;rcases b with rfl|rfl<;>rfl
theorem Xy:∀ (l:List Ji),∀ u ∈ l.flatMap encTerm,∀ z,u≠Value.int .u32 z:=fun l u c z=>by
 obtain⟨t,_,b⟩:=List.mem_flatMap.1 c;simp[encTerm] at b;rcases b with rfl|rfl<;>(intro h;cases h)
theorem J1J (n:Nat):∀ u ∈ Builtin.zeroCells (Value.agg #[.int .i64 0,.int .i64 0]).cells n,∀ z,u≠Value.int .u32 z:=fun u c z=>by
 obtain⟨i,_,rfl⟩:=Array.mem_map.1 c;have b:i % 2=0∨i % 2=1:=by omega
 simp only[Value.cells];rcases b with h|h<;>simp[h,Value.cells]
theorem V2 (w:World)(base:Nat)(v vx:Value)(l:List Ji)(t:Ji)(ty:TypeId)(n:Ju w base v l)(N:Lg w vx [t])(a4:l.length≤1000000)(W:base≤w.heap.size):
  ∃ f w',(Builtin.append_ #[40,40] ty #[v,vx]).run Tryz.prog w = .ok f w'∧Ju w' base f (l ++ [t])∧w.grownBy w' v.ownBlock∧Dk w w'∧(f.ownBlock=v.ownBlock∨f.ownBlock=some w.heap.size):=by
 obtain⟨f,w',y,U,L,V⟩:=Q1 (ty:=ty) 40 75 _ 16 Tryz.underlying40 J1j rfl (by decide) Mm Xx base v vx l [t] n.1 N (by simp;omega) (by simp;omega) W (by simp);refine⟨f,w',y,⟨U,fun g C=>?_⟩,L,Dk.grown L n.2,V⟩;obtain⟨i0,E,S,J,T⟩:=info_parts J1j;obtain⟨hd,p,c,rfl,k1,k2,k3⟩:=N;rcases k3 with rfl|⟨b,A,rfl,X⟩
 ·simp at k1
 have G:∀ j u,(([t]:List Ji).flatMap encTerm)[j]?=some u→w.cell? ((⟨b,A,none⟩:Addr).add j)=some u:=fun j u H=>by rw[Nv];exact X j u H
 have x:(([t]:List Ji).flatMap encTerm).length=1 * i0.size:=by rw[J];exact K4 Mm [t]
 have I:=Xy [t];rcases n.1.2 with⟨rfl,h0⟩|⟨d,B,r,rfl,a2,D,a5,a3,Y,a6⟩
 ·have q:=run_append_nil (P:=Tryz.prog) w 40 ty 75 i0 _ Tryz.underlying40 E S ⟨b,A,none⟩ 1 c _ x G (by omega) (by omega) (by rw[T];omega);have k:=y.symm.trans q;injection k with e2 e3;subst e2 e3;obtain rfl:w.heap.size=g:=by simpa[Value.ownBlock] using C
  refine⟨_,_,heap_alloc_new w.drew _,fun i z e=>?_⟩;rcases Array.mem_append.1 (Array.mem_of_getElem? e) with h|h
  ·exact I _ (by simpa using h) z rfl
  ·exact J1J _ _ h z rfl
 ·by_cases R:l.length+1≤B
  ·have a0:l.length * i0.size+(([t]:List Ji).flatMap encTerm).length≤r.size:=by
    have:=Nat.mul_le_mul_right 2 R;rw[x,Y,J];omega
   have q:=run_append_room (P:=Tryz.prog) w 40 ty 75 i0 Tryz.underlying40 E d l.length B r D ⟨b,A,none⟩ 1 c _ x G (fun u H=>Xx t u (by simpa using H)) R a0;have k:=y.symm.trans q;injection k with e2 e3;subst e2 e3;obtain rfl:d=g:=by simpa[Value.ownBlock] using C
   obtain⟨a,ta,s,M⟩:=n.2 d rfl;rw[D] at s;injection s with s;injection s with q1 q2 q3;subst q1;refine⟨(r.toList.take (l.length * i0.size) ++ ([t]:List Ji).flatMap encTerm ++ r.toList.drop (l.length * i0.size+(([t]:List Ji).flatMap encTerm).length)).toArray,75,by simp[World.setRow,Array.getElem?_modify,D],fun i z e=>?_⟩;have O:=Array.mem_of_getElem? e;rw[List.mem_toArray] at O;rcases List.mem_append.1 O with h|h
   ·rcases List.mem_append.1 h with h|h
    ·obtain⟨j,m,F⟩:=List.getElem_of_mem (List.mem_of_mem_take h);exact M j z (by rw[← F];simp at m;simp[m])
    ·exact I _ h z rfl
   ·obtain⟨j,m,F⟩:=List.getElem_of_mem (List.mem_of_mem_drop h);exact M j z (by rw[← F];simp at m;simp[m])
  ·have a1:∀ j u,(l.flatMap encTerm)[j]?=some u→w.cell? ((⟨d,0,none⟩:Addr).add j)=some u:=World.ownsRow.cells (show w.ownsRow base 75 2 _ l.length (l.flatMap encTerm) from n.1) (g:=d) rfl;have q:=run_append_grow (P:=Tryz.prog) w 40 ty 75 i0 _ Tryz.underlying40 E S ⟨d,0,none⟩ l.length B _ (by rw[J];exact K4 Mm l) a1 ⟨b,A,none⟩ 1 c _ x G (by omega) (by omega) (growslice_fits (by omega) (by rw[T];omega));have k:=y.symm.trans q;injection k with e2 e3;subst e2 e3;obtain rfl:w.heap.size=g:=by simpa[Value.ownBlock] using C
   refine⟨_,_,heap_alloc_new w.drew _,fun i z e=>?_⟩;rcases Array.mem_append.1 (Array.mem_of_getElem? e) with h|h
   ·rcases Array.mem_append.1 h with h|h
    ·exact Xy l _ (by simpa using h) z rfl
    ·exact I _ (by simpa using h) z rfl
   ·exact J1J _ _ h z rfl
end Prf
end Go.Proofs.YtcjgimlcefhhmaaGreatDoor
namespace Go.Proofs.YtcjgimlcefhhmaaGreatDoor
open Go.RowKit
section append
variable {α:Type}{enc:α→List Value}{sz:Nat}{P:Program}{o:Oper}{a:Act}{K:Act→World→Prop}{Q:Exit→Act→World→Prop}{w:World}
theorem J25 (t ty e:TypeId)(z:Value)(bytes:Nat)(k:P.underlying t=some (.slice e))(S:(P.info? e).map (fun i=>(i.zero,i.size,i.bytes))=some (some z,sz,bytes))(a1:z.cells.size=sz)(a0:0 < sz)(R:∀ x,(enc x).length=sz)(L:∀ x,∀ u ∈ enc x,u.oneCell'=true)
  (base:Nat) (p:Option Addr) (vx:Value) (l m:List α) (d:OwnL w base e sz enc (.slice p l.length l.length) l) (T:SlL w sz enc vx m)
  (v:(l.length+m.length) * bytes≤140737488355328) (a7:l.length+m.length≤1000000000000) (N:base≤w.heap.size):
  ∃ r w',(Builtin.append_ #[t,t] ty #[.slice p l.length l.length,vx]).run P w = .ok r w'∧OwnL w' base e sz enc r (l ++ m)∧Gr w w':=by
 obtain⟨i0,f,F,H,I⟩:=info_parts S;obtain⟨hd,q,c,rfl,k1,k2,k3⟩:=T;by_cases Y:0 < m.length
 ·rcases k3 with rfl|⟨b,n,rfl,O⟩
  ·omega
  ·have B:∀ j u,(m.flatMap enc)[j]?=some u→w.cell? ((⟨b,n,none⟩:Addr).add j)=some u:=fun j u D=>by rw[Nv];exact O j u D
   have W:∀ u ∈ m.flatMap enc,u.oneCell'=true:=fun u D=>by
    obtain⟨y,_,hy⟩:=List.mem_flatMap.1 D;exact L y u hy
   have A:=K4 R m;obtain⟨r,w',h,M,h3,_⟩:=run_append_own (P:=P) w base t ty e i0 z sz bytes k f F H I a1 a0 _ l.length (l.flatMap enc) d ⟨b,n,none⟩ m.length c (m.flatMap enc) A B W (by unfold maxLen;omega) v N;have G:Gr w w':=by
    subst H;subst I;have X:=d.2;rcases X with⟨E,J⟩|⟨g,a2,a3,E,a4,G,a8,a5,a6,a9⟩
    ·injection E with hv1 hv2 hv3;subst hv1;rw[hv2] at h;have C:=run_append_nil (P:=P) w t ty e i0 z k f F ⟨b,n,none⟩ m.length c (m.flatMap enc) A B Y (by omega) (by have:=v;rw[J] at this;simp only[Nat.zero_add] at this;omega);have s:=h.symm.trans C;injection s with e2 e3;subst e3;exact(Gr.refl w).drew.alloc _
    ·injection E with hv1 hv2 hv3;subst hv1;have V:∀ j u,(l.flatMap enc)[j]?=some u→w.cell? ((⟨g,0,none⟩:Addr).add j)=some u:=World.ownsRow.cells (show w.ownsRow base e i0.size _ l.length (l.flatMap enc) from d) (g:=g) rfl;have C:=run_append_grow (P:=P) w t ty e i0 z k f F ⟨g,0,none⟩ l.length l.length (l.flatMap enc) d.1 V ⟨b,n,none⟩ m.length c (m.flatMap enc) A B (by omega) (by omega) (growslice_fits (by omega) v);have s:=h.symm.trans C;injection s with e2 e3;subst e3;exact(Gr.refl w).drew.alloc _
   refine⟨r,w',h,?_,G⟩;unfold OwnL;rw[List.flatMap_append,List.length_append];exact M
 ·have U:m=[]:=List.eq_nil_of_length_eq_zero (by omega);subst U;refine⟨_,w,?_,by rw[List.append_nil];exact d,Gr.refl w⟩
  cases p<;>cases q<;>simp[Builtin.append_,run_underlying k,sizeOf,typeInfo,f,Builtin.lenOf,Builtin.firstCells,loadCells,loadCellsFrom,storeCells]
theorem J6V (s x:Operand)(t e:TypeId)(z:Value)(bytes:Nat)(m:o.op = .call { callee:=.builtin .append,args:=#[s,x],argTypes:=#[t,t] })
  (f:P.underlying t=some (.slice e)) (j:(P.info? e).map (fun i=>(i.zero,i.size,i.bytes))=some (some z,sz,bytes))
  (p q:Option Addr) (n c d:Nat) (v:a.eval s = .slice p n c) (k:n≤c) (r:p≠none∨c=0) (y:a.eval x = .slice q 0 d)
  (h:K (a.put o.dst (.slice p n c)) w):Oper.wp P o a w K Q:=by
 obtain⟨i0,b,A,B,C⟩:=info_parts j;have u:(Builtin.append_ #[t,t] o.type #[.slice p n c,.slice q 0 d]).run P w = .ok (.slice p n c) w:=by
  cases p with
  | none=>
   have g:c=0:=r.resolve_left (fun h=>h rfl);have l:n=0:=by omega
   subst g l
   cases q<;>simp[Builtin.append_,run_underlying f,sizeOf,typeInfo,b,Builtin.lenOf,Builtin.firstCells,loadCells,loadCellsFrom]
  | some p=>cases q<;>simp[Builtin.append_,run_underlying f,sizeOf,typeInfo,b,Builtin.lenOf,Builtin.firstCells,loadCells,loadCellsFrom,k,storeCells]
 unfold Oper.wp execOp;simp only[m,resolve,invoke,builtin,Sem.run_bind,Sem.run_pure,Result.andThen_ok,List.map_toArray,List.map_cons,List.map_nil,v,y,u];exact h
end append
end Go.Proofs.YtcjgimlcefhhmaaGreatDoor
