/- Texts: Base PrA PrB Early Fast Tree PrT Fnv Inv Erlb Erlc. -/
import Derived.BigQuiet
import Derived.Lib.Hide
import Derived.WalkSpells
set_option linter.unusedVariables false
set_option linter.unusedSimpArgs false
set_option maxRecDepth 100000
set_option maxHeartbeats 12800000
namespace Go.Proofs.YtcjgimlcefhhmaaGreatDoor
def Hd (p:Prop):Prop:=p
theorem Hd.o {p:Prop}(h:Hd p):p:=h
theorem Z {p:Prop}(h:p):Hd p:=h
theorem Z2 {a b:Prop}(c:a)(d:b):Hd a∧Hd b:=⟨c,d⟩
theorem Z3 {a b c:Prop}(d:a)(f:b)(g:c):Hd a∧Hd b∧Hd c:=⟨d,f,g⟩
theorem Z4 {a b c d:Prop}(f:a)(g:b)(h:c)(dd:d):Hd a∧Hd b∧Hd c∧Hd d:=⟨f,g,h,dd⟩
theorem Z5 {a b c d f:Prop}(g:a)(h:b)(j:c)(dd:d)(k:f):Hd a∧Hd b∧Hd c∧Hd d∧Hd f:=⟨g,h,j,dd,k⟩
theorem Z6 {a b c d f g:Prop}(h:a)(j:b)(k:c)(dd:d)(l:f)(m:g):Hd a∧Hd b∧Hd c∧Hd d∧Hd f∧Hd g:=⟨h,j,k,dd,l,m⟩
theorem Z7 {a b c d f g h:Prop}(j:a)(k:b)(l:c)(dd:d)(m:f)(n:g)(p:h):Hd a∧Hd b∧Hd c∧Hd d∧Hd f∧Hd g∧Hd h:=⟨j,k,l,dd,m,n,p⟩
theorem Z8 {a b c d f g h i:Prop}(j:a)(k:b)(l:c)(dd:d)(m:f)(n:g)(p:h)(q:i):Hd a∧Hd b∧Hd c∧Hd d∧Hd f∧Hd g∧Hd h∧Hd i:=⟨j,k,l,dd,m,n,p,q⟩
theorem Z9 {a b c d f g h i j:Prop}(k:a)(l:b)(m:c)(dd:d)(n:f)(p:g)(q:h)(r:i)(s:j):Hd a∧Hd b∧Hd c∧Hd d∧Hd f∧Hd g∧Hd h∧Hd i∧Hd j:=⟨k,l,m,dd,n,p,q,r,s⟩
theorem hidN2 (n:Nat):Hd (¬ n+1 < n)∧Hd (n≠n+1):=by
 unfold Hd;refine⟨?_,?_⟩<;>omega
theorem hidN3 (n:Nat):Hd (¬ n+1 < n)∧Hd (¬ n+1+1 < n)∧Hd (n≠n+1)∧Hd (n≠n+1+1)∧Hd (n+1≠n+1+1):=by
 unfold Hd;refine⟨?_,?_,?_,?_,?_⟩<;>omega
theorem hidN4 (n:Nat):Hd (¬ n+1 < n)∧Hd (¬ n+1+1 < n)∧Hd (¬ n+1+1+1 < n)∧Hd (n≠n+1)∧Hd (n≠n+1+1)∧Hd (n≠n+1+1+1)∧Hd (n+1≠n+1+1)∧Hd (n+1≠n+1+1+1)∧Hd (n+1+1≠n+1+1+1):=by
 unfold Hd;refine⟨?_,?_,?_,?_,?_,?_,?_,?_,?_⟩<;>omega
theorem hidN5 (n:Nat):Hd (¬ n+1 < n)∧Hd (¬ n+1+1 < n)∧Hd (¬ n+1+1+1 < n)∧Hd (¬ n+1+1+1+1 < n)∧Hd (n≠n+1)∧Hd (n≠n+1+1)∧Hd (n≠n+1+1+1)∧Hd (n≠n+1+1+1+1)∧Hd (n+1≠n+1+1)∧Hd (n+1≠n+1+1+1)∧Hd (n+1≠n+1+1+1+1)∧Hd (n+1+1≠n+1+1+1)∧Hd (n+1+1≠n+1+1+1+1)∧Hd (n+1+1+1≠n+1+1+1+1):=by
 unfold Hd;refine⟨?_,?_,?_,?_,?_,?_,?_,?_,?_,?_,?_,?_,?_,?_⟩<;>omega
theorem hidN6 (n:Nat):Hd (¬ n+1 < n)∧Hd (¬ n+1+1 < n)∧Hd (¬ n+1+1+1 < n)∧Hd (¬ n+1+1+1+1 < n)∧Hd (¬ n+1+1+1+1+1 < n)∧Hd (n≠n+1)∧Hd (n≠n+1+1)∧Hd (n≠n+1+1+1)∧Hd (n≠n+1+1+1+1)∧Hd (n≠n+1+1+1+1+1)∧Hd (n+1≠n+1+1)∧Hd (n+1≠n+1+1+1)∧Hd (n+1≠n+1+1+1+1)∧Hd (n+1≠n+1+1+1+1+1)∧Hd (n+1+1≠n+1+1+1)∧Hd (n+1+1≠n+1+1+1+1)∧Hd (n+1+1≠n+1+1+1+1+1)∧Hd (n+1+1+1≠n+1+1+1+1)∧Hd (n+1+1+1≠n+1+1+1+1+1)∧Hd (n+1+1+1+1≠n+1+1+1+1+1):=by
 unfold Hd;refine⟨?_,?_,?_,?_,?_,?_,?_,?_,?_,?_,?_,?_,?_,?_,?_,?_,?_,?_,?_,?_⟩<;>omega
theorem hidC2 {a b:Prop}(x:a∧b):Hd a∧Hd b:=x
theorem hidC3 {a b c:Prop}(x:a∧b∧c):Hd a∧Hd b∧Hd c:=x
theorem hidC4 {a b c d:Prop}(x:a∧b∧c∧d):Hd a∧Hd b∧Hd c∧Hd d:=x
theorem hidC5 {a b c d f:Prop}(x:a∧b∧c∧d∧f):Hd a∧Hd b∧Hd c∧Hd d∧Hd f:=x
theorem hidC6 {a b c d f g:Prop}(x:a∧b∧c∧d∧f∧g):Hd a∧Hd b∧Hd c∧Hd d∧Hd f∧Hd g:=x
theorem hidC7 {a b c d f g h:Prop}(x:a∧b∧c∧d∧f∧g∧h):Hd a∧Hd b∧Hd c∧Hd d∧Hd f∧Hd g∧Hd h:=x
end Go.Proofs.YtcjgimlcefhhmaaGreatDoor
namespace Go.Proofs.YtcjgimlcefhhmaaGreatDoor
open Go.RowKit
def Gr (w w':World):Prop:=Below w.heap.size w w'
theorem Gr.refl (w:World):Gr w w:=Below.refl _ _
theorem Gr.trans {a b c:World}(h:Gr a b)(k:Gr b c):Gr a c:=Below.trans h (Below.mono k h.size)
theorem Gr.drewN {a b:World}(h:Gr a b)(n:Nat):Gr a (b.drewN n):=⟨h.os,h.tape,h.output,h.size,h.block⟩
theorem Gr.drew {a b:World}(h:Gr a b):Gr a b.drew:=h.drewN 1
theorem Gr.size {a b:World}(h:Gr a b):a.heap.size≤b.heap.size:=Below.size h
theorem Gr.alloc {a b:World}(h:Gr a b)(o:Obj):Gr a (b.alloc o):=Below.alloc h h.size o
theorem Gr.cell {a b:World}(h:Gr a b){p:Addr}{v:Value}(c:a.cell? p=some v):b.cell? p=some v:=by
 rw[Below.cell h (World.block_lt_of_cell? a _ c)];exact c
def Ret (w:World)(S:Value→World→Prop)(e:Ending)(w':World):Prop:=∃ v,e = .returned v∧Gr w w'∧S v w'
theorem Ret.mk {w w':World}{S:Value→World→Prop}{v:Value}(b:Gr w w')(c:S v w'):Ret w S (.returned v) w':=⟨v,rfl,b,c⟩
section region
variable {P:Program}{ops:Array Oper}{md:Region.Mode}{Q:Exit→Act→World→Prop}
def isStore (o:Oper):Bool:=match o.op with
 | .store .. | .insert .. | .mapUpdate .. | .entryStore .. => true
 | _=>false
def relOf (o:Oper)(w w':World):Prop:=isStore o=false→Gr w w'
theorem relOf.refl (o:Oper)(w:World):relOf o w w:=fun _=>Gr.refl w
def gOp (P:Program)(ops:Array Oper)(Q:Exit→Act→World→Prop)(i:Nat)(K:Act→World→Prop)(a:Act)(w:World):Prop:=
 wpOp P ops Q i (fun a' w'=>(∀ o,ops[i]?=some o→relOf o w w')∧K a' w') a w
def wpAnyG (P:Program)(md:Region.Mode)(ops:Array Oper)(Q:Exit→Act→World→Prop):Nat→Array Bool→Act→World→Prop
 | 0,listed,a,w=>Region.ready md ops listed=[]∧Q .normal a w
 | fuel+1,listed,a,w=>
  (Region.ready md ops listed=[]→Q .normal a w)∧
  ∀ i ∈ Region.ready md ops listed,gOp P ops Q i (wpAnyG P md ops Q fuel (listed.setIfInBounds i true)) a w
theorem Oa:∀ (fuel:Nat) (b:Array Bool) (a:Act) (w:World),wpAnyG P md ops Q fuel b a w→wpAny P md ops Q fuel b a w
 | 0,_,_,_,h=>h
 | fuel+1,_,_,_,h=>⟨h.1,fun i d=>wpOp_mono (fun c w' f=>Oa fuel _ c w' f.2) (h.2 i d)⟩
def pureOp (o:Oper):Bool:=match o.op with
 | .extract (.tmp _) _=>true
 | _=>false
theorem pureOp.any {P:Program}{ρ:Operand→Value}{o:Oper}(h:pureOp o=true){v:Value}{w:World}(b:(execOp ρ o).run P w = .ok (.value v) w)(w':World):(execOp ρ o).run P w' = .ok (.value v) w':=by
 unfold pureOp at h
 split at h
 ·rename_i t i c;unfold execOp at b ⊢;simp only[c] at b ⊢;unfold Instr.extract at b ⊢
  split at b<;>simp_all[go_sem]
  split at b<;>simp_all[go_sem]
 ·cases h
def J0 (P:Program)(ops:Array Oper)(o:Oper)(v:Value)(a:Act)(w:World):Prop:=
 (Region.wanted o (yielded ops a.tmps)=true∧∀ w',Gr w w'∨pureOp o=true→(execOp a.eval o).run P w' = .ok (.value v) w')∨
 (Region.wanted o (yielded ops a.tmps)=false∧v=undef)
theorem J0.mk {o:Oper}{v:Value}{a:Act}{w:World}(c:Region.wanted o (yielded ops a.tmps)=true)(b:∀ w',Gr w w'→(execOp a.eval o).run P w' = .ok (.value v) w'):J0 P ops o v a w:=
 .inl ⟨c,fun w' h=>h.elim (b w') fun h=>pureOp.any h (b w (Gr.refl w)) w'⟩
theorem J0.grow {o:Oper}{v:Value}{a:Act}{w w':World}(j:J0 P ops o v a w)(f:Gr w w'∨pureOp o=true):J0 P ops o v a w':=by
 rcases j with⟨c,d⟩|h
 ·exact .inl ⟨c,fun k b=>d k (b.elim (fun b=>f.imp (fun g=>g.trans b) id) .inr)⟩
 ·exact .inr h
theorem J0.of_same {o:Oper}{v:Value}{a b:Act}{w:World}(f:J0 P ops o v a w)(c:execOp b.eval o=execOp a.eval o)
  (d:Region.wanted o (yielded ops b.tmps)=Region.wanted o (yielded ops a.tmps)):J0 P ops o v b w:=by
 unfold J0 at *;rw[c,d];exact f
theorem J0.gOp {i:Nat}{o:Oper}{v:Value}{a:Act}{w:World}(f:ops[i]?=some o)(j:J0 P ops o v a w)
  {K:Act→World→Prop} (h:K (a.put o.dst v) w):gOp P ops Q i K a w:=by
 unfold Proofs.YtcjgimlcefhhmaaGreatDoor.gOp wpOp;simp only[f];have c:∀ d:Oper,some o=some d→relOf d w w:=fun _ _=>relOf.refl _ _;rcases j with⟨b,g⟩|⟨b,rfl⟩
 ·simp only[b,if_true,Oper.wp,g w (.inl (Gr.refl w)),Oper.upon];exact .inl ⟨c,h⟩
 ·simp only[b,Bool.false_eq_true,if_false];exact⟨c,h⟩
theorem To {j:Nat}{g k:Oper}{v:Value}(J:ops[j]?=some k)(I:g.apart ops k=true)(s:isStore k=false∨pureOp g=true)
  (M:∀ y b,g.op≠.select y b) (H:∀ y b,k.op≠.select y b)
  (F:∀ c a d v w,Q (.panic c) (a.put d v) w→Q (.panic c) a w) {K:Act→World→Prop} {a:Act} {w:World}
  (l:J0 P ops g v a w) (h:gOp P ops Q j K (a.put g.dst v) w):
  gOp P ops Q j (fun D w'=>J0 P ops g v D w'∧K (D.put g.dst v) w') a w:=by
 obtain⟨z,p,E⟩:=Oper.apart_spec I;have q:∀ (a:Act) (w:World),J0 P ops g v a w→∀ u,J0 P ops g v (a.put k.dst u) w:=fun a w l u=>
  l.of_same (execOp_put g M a k.dst u E) (wanted_put g a k.dst u E)
 have N:∀ d w,J0 P ops g v a w→J0 P ops g v { a with defers:=d :: a.defers } w:=fun d w l=>l.of_same rfl rfl;unfold gOp wpOp at *;simp only[J] at *;rw[wanted_put k a g.dst v z] at h
 split
 ·rename_i A;simp only[A,if_true] at h;rcases h with h|⟨G,L⟩
  case inr=>exact .inr ⟨by unfold Oper.asks at *;rw[execOp_put k H a g.dst v z] at G;exact G,L⟩
  refine .inl ?_;unfold Oper.wp at *;rw[execOp_put k H a g.dst v z] at h;generalize (execOp a.eval k).run P w=r at *
  cases r with
  | ok n w'=>
   cases n<;>simp only[Oper.upon] at h ⊢
   case value u=>exact⟨h.1,q a w' (l.grow (s.imp (h.1 k rfl) id)) u,by rw[← Act.put_comm a v u p];exact h.2⟩
   case skip=>exact⟨h.1,q a w' (l.grow (s.imp (h.1 k rfl) id)) _,by rw[← Act.put_comm a v undef p];exact h.2⟩
   case defer d=>
    refine⟨h.1,q _ w' (N d w' (l.grow (s.imp (h.1 k rfl) id))) _,?_⟩;rw[← Act.put_comm _ v undef p,← Act.put_defers];exact h.2
   case enter f args=>
    refine Calls.mono h fun e C m=>?_
    cases e with
    | returned u=>exact⟨m.1,q a C (l.grow (s.imp (m.1 k rfl) id)) u,by rw[← Act.put_comm a v u p];exact m.2⟩
    | panicked c=>exact F _ _ _ _ _ m
    | outgrown=>exact m
   case row row args=>exact Rows.mono h fun u C m=>⟨m.1,q a C (l.grow (s.imp (m.1 k rfl) id)) u,by rw[← Act.put_comm a v u p];exact m.2⟩
  | halt x w'=>
   cases x<;>simp only[Oper.upon] at h ⊢
   case panic u=>exact F _ _ _ _ _ h
 ·rename_i A;simp only[A] at h;exact⟨h.1,q a w (l) _,by rw[← Act.put_comm a v undef p];exact h.2⟩
theorem Tn {i:Nat}{a:Act}{w:World}{K b:Act→World→Prop}(h:∀ a w,K a w→b a w)
  (d:gOp P ops Q i K a w):gOp P ops Q i b a w:=wpOp_mono (fun a w c=>⟨c.1,h a w c.2⟩) d
def J7 (md:Region.Mode)(ops:Array Oper)(listed:Array Bool):Prop:=
 ∀ j o,ops[j]?=some o→listed.getD j false=true→∀ e ∈ o.after,Region.binds md e=true→listed.getD e.on false=true
theorem J7.set {b:Array Bool}{i:Nat}(m:J7 md ops b)(n:i ∈ Region.ready md ops b):J7 md ops (b.setIfInBounds i true):=by
 intro j o f h e d c;refine getD_set_true ?_;obtain⟨_,p,k,l⟩:=mem_ready.1 n;by_cases g:i=j
 ·subst g;rw[f] at k;cases k;exact l e d c
 ·rw[getD_set_ne false g] at h;exact m j o f h e d c
inductive Jz (md:Region.Mode)(ops:Array Oper)(i:Nat):Nat→Prop
 | base {j:Nat} {o:Oper} {e:Edge} (hj:ops[j]?=some o) (he:e ∈ o.after) (hb:Region.binds md e=true) (h:e.on=i):Jz md ops i j
 | step {j:Nat} {o:Oper} {e:Edge} (hj:ops[j]?=some o) (he:e ∈ o.after) (hb:Region.binds md e=true) (h:Jz md ops i e.on):Jz md ops i j
theorem Jz.listed {b:Array Bool}{i j:Nat}(c:J7 md ops b)(h:Jz md ops i j)(d:b.getD j false=true):b.getD i false=true:=by
 induction h with
 | base hj he hb h=>subst h;exact c _ _ hj d _ he hb
 | step hj he hb h ih=>exact ih (c _ _ hj d _ he hb)
theorem Jz.not_ready {c:Array Bool}{i j:Nat}(l:J7 md ops c)(m:i ∈ Region.ready md ops c)(b:j ∈ Region.ready md ops c):¬ Jz md ops i j:=by
 intro h;obtain⟨g,_⟩:=mem_ready.1 m;obtain⟨_,n,d,k⟩:=mem_ready.1 b;have key:c.getD i false=true:=by
  cases h with
  | base b he hb h=>rw[b] at d;cases d;subst h;exact k _ he hb
  | step b he hb h=>rw[b] at d;cases d;exact h.listed l (k _ he hb)
 rcases Nat.lt_or_ge i c.size with f|f
 ·simp[f] at g key;rw[g] at key;cases key
 ·simp[Array.getElem?_eq_none f] at g
theorem Mu {i:Nat}{l:Oper}{v:Value}(u:ops[i]?=some l)(E:∀ (j:Nat) (o:Oper) q b,ops[j]?=some o→o.op≠.select q b)
  (K:∀ c a d v w,Q (.panic c) (a.put d v) w→Q (.panic c) a w):
  ∀ (fuel:Nat) (f:Array Bool) (a:Act) (w:World),J7 md ops f→
   (∀ j p,ops[j]?=some p→j≠i→f.getD j true=false→¬ Jz md ops i j→l.apart ops p=true∧(isStore p=false∨pureOp l=true))→
   i ∈ Region.ready md ops f→J0 P ops l v a w→
   wpAnyG P md ops Q fuel (f.setIfInBounds i true) (a.put l.dst v) w→wpAnyG P md ops Q (fuel+1) f a w:=by
 intro fuel
 induction fuel with
 | zero=>
  intro f a w _ _ m s H;refine⟨fun h=>(by rw[h] at m;cases m),fun j n=>?_⟩;by_cases g:j=i
  ·subst g;exact s.gOp u H
  ·have:=ready_mono n g;rw[H.1] at this
   cases this
 | succ fuel ih=>
  intro f a w z A m s H;refine⟨fun h=>(by rw[h] at m;cases m),fun j n=>?_⟩;by_cases g:j=i
  ·subst g;exact s.gOp u H
  ·have I:=H.2 j (ready_mono n g);obtain⟨D,p,x,T⟩:=mem_ready.1 n;obtain⟨L,S⟩:=A j p x g D (Jz.not_ready z m n);have J:=To x L S (fun q b=>E i l q b u) (fun q b=>E j p q b x) K s I;have M:∀ k r,ops[k]?=some r→k≠i→(f.setIfInBounds j true).getD k true=false→
     ¬ Jz md ops i k→l.apart ops r=true∧(isStore r=false∨pureOp l=true):=fun k r N O F R=>by
    refine A k r N O ?_ R;by_cases C:j=k
    ·subst C;exact D
    ·rw[getD_set_ne true C] at F;exact F
   refine Tn (fun G w' y=>ih (f.setIfInBounds j true) G w' (z.set n) M (ready_mono m (Ne.symm g)) y.1 ?_) J;rw[Array.setIfInBounds_comm _ _ g];exact y.2
def wpE (P:Program)(ops:Array Oper)(Q:Exit→Act→World→Prop):List (Nat × Bool)→Act→World→Prop
 | [],a,w=>Q .normal a w
 | (i,r) :: rest,a,w=>∃ o,ops[i]?=some o∧
   if Region.wanted o (yielded ops a.tmps)=true then
    (if r=true then ∃ v,(∀ w',Gr w w'→(execOp a.eval o).run P w' = .ok (.value v) w')∧wpE P ops Q rest (a.put o.dst v) w
     else Oper.wp P o a w (fun a' w'=>relOf o w w'∧wpE P ops Q rest a' w') Q)
   else wpE P ops Q rest (a.put o.dst undef) w
def waitsGo (md:Region.Mode)(i:Nat):List Oper→Array Bool→Array Bool
 | [],acc=>acc
 | o :: l,acc=>waitsGo md i l (acc.push (o.after.any fun e=>Region.binds md e && (e.on == i || acc.getD e.on false)))
theorem Pt {i:Nat}:∀ (l:List Oper) (b:Array Bool),(∀ j,l[j]?=ops[b.size+j]?)→(∀ j,b.getD j false=true→Jz md ops i j)→
  ∀ j,(waitsGo md i l b).getD j false=true→Jz md ops i j
 | [],_,_,hacc=>hacc
 | o :: l,b,hl,hacc=>by
  refine Pt l _ (fun j=>?_) (fun j d=>?_)
  ·have:=hl (j+1);simpa[Nat.add_assoc,Nat.add_comm 1 j] using this
  ·by_cases h:j=b.size
   ·subst h;simp only[Array.getD_eq_getD_getElem?,Array.getElem?_push_size,Option.getD_some] at d;obtain⟨e,g,c⟩:=Array.any_eq_true'.1 d;simp only[Bool.and_eq_true,Bool.or_eq_true,beq_iff_eq] at c;have f:ops[b.size]?=some o:=by simpa using(hl 0).symm
    rcases c.2 with h|h
    ·exact .base f g c.1 h
    ·exact .step f g c.1 (hacc _ (by simpa[Array.getD_eq_getD_getElem?] using h))
   ·refine hacc j ?_;simpa[Array.getD_eq_getD_getElem?,Array.getElem?_push,h] using d
def freeG (md:Region.Mode)(ops:Array Oper)(listed:Array Bool)(i:Nat):Bool:=
 match ops[i]? with
 | none=>false
 | some oi=>
  (List.range ops.size).all fun j=>j == i || listed.getD j true || match ops[j]? with
   | some oj=>(oi.apart ops oj && (!isStore oj || pureOp oi)) || (waitsGo md i ops.toList #[]).getD j false
   | none=>true
theorem On {i:Nat}{c:Oper}{g:Array Bool}(k:ops[i]?=some c)(h:freeG md ops g i=true)(j:Nat)(d:Oper)
  (f:ops[j]?=some d) (l:j≠i) (n:g.getD j true=false) (m:¬ Jz md ops i j):
  c.apart ops d=true∧(isStore d=false∨pureOp c=true):=by
 simp only[freeG,k,List.all_eq_true,List.mem_range] at h;have b:=h j (Array.getElem?_eq_some_iff.1 f).1;simp only[f,Bool.or_eq_true,beq_iff_eq,l,false_or,n,Bool.false_eq_true] at b;rcases b with b|b
 ·simpa using b
 ·exact absurd (Pt (md:=md) (ops:=ops) (i:=i) ops.toList #[] (by simp) (by simp) j b) m
def eagerB (md:Region.Mode)(ops:Array Oper):List (Nat × Bool)→Array Bool→Bool
 | [],listed=>(Region.ready md ops listed).isEmpty
 | (i,r) :: rest,listed=>(if r then (Region.ready md ops listed).contains i && freeG md ops listed i else Region.ready md ops listed == [i]) && eagerB md ops rest (listed.setIfInBounds i true)
theorem Ms (n:Region.noSelect ops=true)(k:∀ c a d v w,Q (.panic c) (a.put d v) w→Q (.panic c) a w):
  ∀ (l:List (Nat × Bool)) (b:Array Bool) (a:Act) (w:World),J7 md ops b→eagerB md ops l b=true→wpE P ops Q l a w→wpAnyG P md ops Q l.length b a w
 | [],b,a,w,_,g,h=>⟨by simpa[eagerB] using g,h⟩
 | (i,true) :: l,b,a,w,hc,g,h=>by
  simp only[eagerB,if_true,Bool.and_eq_true] at g;obtain⟨⟨q,x⟩,p⟩:=g;obtain⟨o,m,h⟩:=h;have r:i ∈ Region.ready md ops b:=by simpa using q
  by_cases f:Region.wanted o (yielded ops a.tmps)=true
  ·rw[if_pos f,if_pos rfl] at h;obtain⟨v,C,h⟩:=h;exact Mu m (Region.noSelect_spec n) k l.length b a w hc (On m x) r (.mk f C) (Ms n k l _ _ _ (hc.set r) p h)
  ·rw[if_neg f] at h;exact Mu m (Region.noSelect_spec n) k l.length b a w hc (On m x) r (.inr ⟨by simpa using f,rfl⟩) (Ms n k l _ _ _ (hc.set r) p h)
 | (i,false) :: l,b,a,w,hc,g,h=>by
  simp only[eagerB,Bool.false_eq_true,if_false,Bool.and_eq_true,beq_iff_eq] at g;obtain⟨q,p⟩:=g;obtain⟨o,m,h⟩:=h;refine⟨fun s=>(by rw[q] at s;cases s),fun j y=>?_⟩;rw[q,List.mem_singleton] at y;subst y;have u:J7 md ops (b.setIfInBounds j true):=hc.set (by rw[q];simp);unfold gOp wpOp;simp only[m];by_cases f:Region.wanted o (yielded ops a.tmps)=true
  ·rw[if_pos f,if_neg (by simp)] at h;rw[if_pos f];refine .inl (Oper.wp_mono (fun D w' z=>⟨fun E A=>?_,Ms n k l _ _ _ u p z.2⟩) h)
   cases A;exact z.1
  ·rw[if_neg f] at h;rw[if_neg f];exact⟨fun _ _=>relOf.refl _ _,Ms n k l _ _ _ u p h⟩
theorem Lu {id:Nat}{a:Act}{w:World}(b:List (Nat × Bool))(l:P.follows .mixedOrders=true)(n:Region.noSelect ops=true)
  (m:b.length=ops.size) (g:eagerB .any ops b (Array.replicate ops.size false)=true) (k:∀ c a d v w,Q (.panic c) (a.put d v) w→Q (.panic c) a w)
  (h:wpE P ops Q b a w.drew):(Code.region id ops true).wp P Q a w:=by
 refine wp_region_any l (Oa _ _ _ _ ?_);have:=Ms (md:=.any) n k b (Array.replicate ops.size false) a w.drew (fun j o _ f=>by simp[Array.getElem?_replicate] at f;split at f<;>simp at f) g h;rw[m] at this;exact this
end region
section steps
variable {P:Program}{ops:Array Oper}{Q:Exit→Act→World→Prop}{i:Nat}{rest:List (Nat × Bool)}{a:Act}{w:World}{o:Oper}
theorem Jg (h:Q .normal a w):wpE P ops Q [] a w:=h
theorem Vm (b:ops[i]?=some o)(c:Region.wanted o (yielded ops a.tmps)=true)
  (h:∀ K:Act→World→Prop,(∀ a w,wpE P ops Q rest a w→K a w)→∃ v,(∀ w',Gr w w'→(execOp a.eval o).run P w' = .ok (.value v) w')∧K (a.put o.dst v) w):wpE P ops Q ((i,true) :: rest) a w:=
 ⟨o,b,by rw[if_pos c,if_pos rfl];exact h _ (fun _ _ h=>h)⟩
theorem Se {b:World}(c:Gr b w)(f:ops[i]?=some o)(j:Region.wanted o (yielded ops a.tmps)=true){v:Value}(g:∀ w',Gr b w'→(execOp a.eval o).run P w' = .ok (.value v) w')
  (h:∀ K:Act→World→Prop,(∀ a w,wpE P ops Q rest a w→K a w)→K (a.put o.dst v) w):wpE P ops Q ((i,true) :: rest) a w:=
 ⟨o,f,by rw[if_pos j,if_pos rfl];exact⟨v,fun w' d=>g w' (c.trans d),h _ (fun _ _ h=>h)⟩⟩
theorem Jj (c:ops[i]?=some o)(d:Region.wanted o (yielded ops a.tmps)=true)
  (h:∀ K:Act→World→Prop,(∀ a w,wpE P ops Q rest a w→K a w)→Oper.wp P o a w (fun b w'=>relOf o w w'∧K b w') Q):wpE P ops Q ((i,false) :: rest) a w:=
 ⟨o,c,by rw[if_pos d,if_neg (by simp)];exact h _ (fun _ _ h=>h)⟩
theorem J1F {r:Bool}(b:ops[i]?=some o)(c:Region.wanted o (yielded ops a.tmps)=false)(h:wpE P ops Q rest (a.put o.dst undef) w):wpE P ops Q ((i,r) :: rest) a w:=
 ⟨o,b,by rw[if_neg (by simp[c])];exact h⟩
end steps
theorem Jc {P:Program}{ops:Array Oper}{Q:Exit→Act→World→Prop}{i:Nat}{rest:List (Nat × Bool)}{a b:Act}{w c:World}{o:Oper}{v:Value}(f:Gr c w)
  (j:ops[i]?=some o:=by exact rfl) (l:Region.wanted o (yielded ops a.tmps)=true:=by exact rfl) (k:∀ w',Gr c w'→(execOp a.eval o).run P w' = .ok (.value v) w':=by(intro w' m;go_simp;rfl))
  (g:a.put o.dst v=b:=by(go_simp;rfl)) (h:wpE P ops Q rest b w):wpE P ops Q ((i,true) :: rest) a w:=
 Se f j l k fun K d=>d _ _ (g ▸ h)
theorem Jw {P:Program}{ops:Array Oper}{Q:Exit→Act→World→Prop}{i:Nat}{rest:List (Nat × Bool)}{a b:Act}{w:World}{o:Oper}{r:Bool}
  (d:ops[i]?=some o:=by exact rfl) (f:Region.wanted o (yielded ops a.tmps)=false:=by exact rfl) (c:a.put o.dst undef=b:=by(go_simp;rfl)) (h:wpE P ops Q rest b w):wpE P ops Q ((i,r) :: rest) a w:=
 J1F d f (c ▸ h)
end Go.Proofs.YtcjgimlcefhhmaaGreatDoor
namespace Go.Proofs.YtcjgimlcefhhmaaGreatDoor
namespace Prf
structure Ji where
 v:Int
 c:Int
structure RowS where
 name:List UInt8
 group:Int
 kind:Int
 terms:List Ji
 bound:Int
structure VarM where
 lo:Int
 up:Int
 op:Bool
 ig:Bool
 cost:Int
structure Prg where
 vars:List VarM
 rows:List RowS
structure CutS where
 kind:Int
 mult:List Rat
 row:Int
 vars:List Int
structure Jk where
 kind:Int
 mult:List Rat
 var:Int
 pos:Int
 cut:CutS
def sumQ (f:Nat→Rat):Nat→Rat
 | 0=>0
 | k+1=>sumQ f k+f k
theorem Ls (f:Nat→Rat)(n:Nat):sumQ f (n+1)=sumQ f n+f n:=rfl
theorem U8 {f g:Nat→Rat}:∀ {n:Nat},(∀ k,k < n→f k=g k)→sumQ f n=sumQ g n
 | 0,_=>rfl
 | n+1,h=>by
  simp only[Ls];rw[U8 (fun k b=>h k (by omega)),h n (by omega)]
def atQ (y:List Rat)(i:Nat):Rat:=(y[i]?).getD 0
def rowCoef (l:List Ji)(j:Nat):Int:=(l.map fun t=>if t.v=(j:Int) then t.c else 0).sum
def cA (p:Prg)(y:List Rat)(j i:Nat):Rat:=match p.rows[i]? with
 | some r=>(rowCoef r.terms j:Rat) * atQ y i
 | none=>0
def cB (p:Prg)(y:List Rat)(i:Nat):Rat:=match p.rows[i]? with
 | some r=>(r.bound:Rat) * atQ y i
 | none=>0
def combA (p:Prg)(y:List Rat)(j:Nat):Rat:=sumQ (cA p y j) p.rows.length
def combB (p:Prg)(y:List Rat):Rat:=sumQ (cB p y) p.rows.length
def lTerm (vs:List VarM)(a:Nat→Rat)(j:Nat):Rat:=match vs[j]? with
 | some v=>(((if a j < 0 then v.up else v.lo):Int):Rat) * a j
 | none=>0
def leastS (vs:List VarM)(a:Nat→Rat):Rat:=sumQ (lTerm vs a) vs.length
def K7 (vs:List VarM):Prop:=∃ v ∈ vs,v.up < v.lo
def Ng (k:Int)(x:Rat):Prop:=¬ (k=1∧x < 0)∧¬ (k=0∧0 < x)
def Nh (p:Prg)(y:List Rat):Prop:=∀ i r,p.rows[i]?=some r→Ng r.kind (atQ y i)
def Lw (p:Prg)(y:List Rat):Prop:=Nh p y∧(K7 p.vars∨0 < combB p y+leastS p.vars (fun j => - combA p y j))
def In (n:Int):Prop:=-1099511627776≤n∧n≤1099511627776
def Ky (v:VarM):Prop:=In v.lo∧In v.up∧In v.cost∧¬ (v.op=true∧v.up≠0)
def Inc (n:Nat):Int→List Ji→Prop
 | _,[]=>True
 | last,t :: l=>(last < t.v∧t.v < (n:Int)∧t.c≠0∧In t.c)∧Inc n t.v l
def J2 (n:Nat)(r:RowS):Prop:=(0≤r.kind∧r.kind≤2)∧(0≤r.group∧r.group≤60)∧r.name.length≤80∧In r.bound∧(∀ b ∈ r.name,32≤b∧b≤126)∧Inc n (-1) r.terms
def Jo (p:Prg):Prop:=p.vars.length≤400∧p.rows.length≤4000∧(∀ v ∈ p.vars,Ky v)∧∀ r ∈ p.rows,J2 p.vars.length r
def Whole (p:Prg):Prop:=∀ v ∈ p.vars,v.ig=true∧v.op=false
def setLow (vs:List VarM)(j:Int):List VarM:=vs.mapIdx fun i v=>if (i:Int)=j then { v with lo:=1 } else v
def lowAll (vs:List VarM)(l:List Int):List VarM:=l.foldl setLow vs
def sgnR (r:RowS):Int:=if r.kind=1 then -1 else 1
def Lb (vs:List VarM)(r:RowS)(l:List Int):Prop:=¬ K7 (lowAll vs l)∧((sgnR r * r.bound:Int):Rat) < leastS (lowAll vs l) (fun j=>((sgnR r * rowCoef r.terms j:Int):Rat))
def Kb (p:Prg)(v:Int):Prop:=∃ x,0≤v∧p.vars[v.toNat]?=some x∧x.ig=true∧x.op=false∧x.lo=0∧x.up=1
def IncI:Int→List Int→Prop
 | _,[]=>True
 | last,v :: l=>last < v∧IncI v l
def Kf (p:Prg)(c:CutS):Prop:=(c.kind=0∧c.row=0∧c.vars=[]∧c.mult.length≤p.rows.length)∨
 (c.kind=1∧c.mult=[]∧0≤c.row∧c.row < (p.rows.length:Int)∧c.vars≠[]∧IncI (-1) c.vars∧∀ v ∈ c.vars,Kb p v)
def ceilQ (x:Rat):Int:=-(-x).floor
def loT (vs:List VarM)(a:Nat→Rat)(j:Nat):Rat:=match vs[j]? with
 | some v=>a j * (v.lo:Rat)
 | none=>0
def cutTerms (a:Nat→Rat):Nat→List Ji
 | 0=>[]
 | k+1=>cutTerms a k ++ (if ceilQ (a k)=0 then [] else [⟨(k:Int),ceilQ (a k)⟩])
def cutBound (p:Prg)(y:List Rat):Int:=
 ceilQ (combB p y - sumQ (loT p.vars (combA p y)) p.vars.length)+(sumQ (loT p.vars (fun j=>((ceilQ (combA p y j):Int):Rat))) p.vars.length).floor
def cutName:List UInt8:=[99,117,116]
def Mz (p:Prg)(y:List Rat):Prop:=Nh p y∧(∀ j,j < p.vars.length→In (ceilQ (combA p y j)))∧In (cutBound p y)
def roundRow (p:Prg)(y:List Rat):RowS:=⟨cutName,0,1,cutTerms (combA p y) p.vars.length,cutBound p y⟩
def coverRow (l:List Int):RowS:=⟨cutName,0,0,l.map fun v=>⟨v,1⟩,(l.length:Int) - 1⟩
def Kn (p:Prg)(c:CutS)(r:RowS):Prop:=Kf p c∧
 ((c.kind=0∧Mz p c.mult∧r=roundRow p c.mult)∨(c.kind=1∧(∃ x,p.rows[c.row.toNat]?=some x∧Lb p.vars x c.vars)∧r=coverRow c.vars))
theorem Q5 {p:Prg}{c:CutS}{r s:RowS}(h:Kn p c r)(k:Kn p c s):r=s:=by
 rcases h.2 with⟨d,_,b⟩|⟨d,_,b⟩<;>rcases k.2 with⟨k1,_,k2⟩|⟨k1,_,k2⟩
 ·rw[b,k2]
 ·omega
 ·omega
 ·rw[b,k2]
def addRow (p:Prg)(r:RowS):Prg:=⟨p.vars,p.rows ++ [r]⟩
def setUp (vs:List VarM)(j:Int)(m:Int):List VarM:=vs.mapIdx fun i v=>if (i:Int)=j then { v with up:=min v.up m } else v
def setLo (vs:List VarM)(j:Int)(m:Int):List VarM:=vs.mapIdx fun i v=>if (i:Int)=j then { v with lo:=max v.lo m } else v
def Ko (c:CutS):Prop:=c.kind=0∧c.mult=[]∧c.row=0∧c.vars=[]
def lowPart (p:Prg)(v m:Int):Prg:=⟨setUp p.vars v m,p.rows⟩
def highPart (p:Prg)(v m:Int):Prg:=⟨setLo p.vars v (m+1),p.rows⟩
inductive Jm:Prg→List Jk→List Jk→Prop
 | farkas {p:Prg} {n:Jk} {t:List Jk} (h0:n.kind=0) (h1:Ko n.cut∧n.var=0∧n.pos=0) (h2:n.mult.length≤p.rows.length) (h3:Lw p n.mult):Jm p (n :: t) t
 | empty {p:Prg} {n:Jk} {t:List Jk} {v:VarM} (h0:n.kind=1) (h1:Ko n.cut∧n.mult=[]∧n.pos=0) (h2:0≤n.var) (h3:p.vars[n.var.toNat]?=some v) (h4:v.up < v.lo):Jm p (n :: t) t
 | split {p:Prg} {n:Jk} {t r s:List Jk} (h0:n.kind=2) (h1:Ko n.cut∧n.mult=[]) (h2:0≤n.var∧n.var < (p.vars.length:Int)) (h3 : -1099511627776≤n.pos∧n.pos < 1099511627776)
   (h4:Jm (lowPart p n.var n.pos) t r) (h5:Jm (highPart p n.var n.pos) r s):Jm p (n :: t) s
 | cut {p:Prg} {n:Jk} {t s:List Jk} {r:RowS} (h0:n.kind=3) (h1:n.mult=[]∧n.var=0∧n.pos=0) (h2:Kn p n.cut r) (h4:Jm (addRow p r) t s):Jm p (n :: t) s
theorem Pm {p:Prg}{t r:List Jk}(h:Jm p t r):∀ {s:List Jk},Jm p t s→r=s:=by
 induction h with
 | farkas h0 _ _ _=>intro s k;cases k<;>first|rfl|omega
 | empty h0 _ _ _ _=>intro s k;cases k<;>first|rfl|omega
 | split h0 _ _ _ _ _ i4 i5=>
  intro s k
  cases k with
  | split _ _ _ _ k4 k5=>cases i4 k4;exact i5 k5
  | _=>omega
 | cut h0 _ h2 _ i4=>
  intro s k
  cases k with
  | cut _ _ k2 k4=>cases Q5 h2 k2;exact i4 k4
  | _=>omega
theorem J0m {p:Prg}{t r:List Jk}(h:Jm p t r):∃ u,u≠[]∧t=u ++ r∧∀ s,Jm p (u ++ s) s:=by
 induction h with
 | @farkas p n t h0 h1 h2 h3=>exact⟨[n],by simp,rfl,fun s => .farkas h0 h1 h2 h3⟩
 | @empty p n t v h0 h1 h2 h3 h4=>exact⟨[n],by simp,rfl,fun s => .empty h0 h1 h2 h3 h4⟩
 | @split p n t r s h0 h1 h2 h3 h4 h5 i4 i5=>
  obtain⟨u,_,rfl,b⟩:=i4;obtain⟨d,_,rfl,c⟩:=i5;exact⟨n :: (u ++ d),by simp,by simp,fun s=>by
   simp only[List.cons_append,List.append_assoc];exact .split h0 h1 h2 h3 (b _) (c s)⟩
 | @cut p n t s r h0 h1 h2 h4 i4=>
  obtain⟨u,_,rfl,b⟩:=i4;exact⟨n :: u,by simp,by simp,fun s => .cut h0 h1 h2 (b s)⟩
theorem J5i {p:Prg}{t:List Jk}{k:Nat}(h:Jm p t [])(g:k < t.length):¬ Jm p (t.take k) []:=fun d=>by
 obtain⟨u,_,c,f⟩:=J0m d;have b:=f (t.drop k);rw[List.append_nil] at c;rw[← c,List.take_append_drop] at b;have:=congrArg List.length (Pm h b);simp at this;omega
theorem J5j {p:Prg}{t r:List Jk}(h:Jm p t r):t≠[]:=by cases h<;>simp
theorem Oo {n:Nat}:∀ {l:List Ji} {c:Int},-1≤c→Inc n c l→∀ t ∈ l,0≤t.v∧t.v < (n:Int)
 | [],_,_,_,t,b=>by cases b
 | x :: l,c,hl,h,t,b=>by
  obtain⟨d,f⟩:=h;rcases List.mem_cons.1 b with rfl|b
  ·exact⟨by omega,d.2.1⟩
  ·exact Oo (by omega) f t b
theorem J5Z (t:Ji)(l:List Ji)(j:Nat):rowCoef (t :: l) j=(if t.v=(j:Int) then t.c else 0)+rowCoef l j:=by simp[rowCoef]
theorem J0W {p:Prg}{i:Nat}(h:i < p.rows.length):∃ r,p.rows[i]?=some r∧r ∈ p.rows:=⟨_,List.getElem?_eq_getElem h,List.getElem_mem h⟩
theorem J6I {b:List VarM}{i:Nat}(h:i < b.length):∃ r,b[i]?=some r∧r ∈ b:=⟨_,List.getElem?_eq_getElem h,List.getElem_mem h⟩
theorem Oj (a:Nat→Rat)(k:Nat):cutTerms a (k+1)=cutTerms a k ++ (if ceilQ (a k)=0 then [] else [⟨(k:Int),ceilQ (a k)⟩]):=rfl
theorem J13 (b:List VarM)(j:Int)(i:Nat):(setLow b j)[i]?=(b[i]?).map fun v=>if (i:Int)=j then { v with lo:=1 } else v:=by
 simp[setLow,List.getElem?_mapIdx]
theorem J64 (b:List VarM)(j:Int):(setLow b j).length=b.length:=by simp[setLow]
theorem Mb:∀ (l:List Int) (b:List VarM),(lowAll b l).length=b.length
 | [],b=>rfl
 | j :: l,b=>by unfold lowAll;rw[List.foldl_cons];exact(Mb l _).trans (J64 b j)
theorem Za:∀ (l:List Int) (b:List VarM) (i:Nat),(lowAll b l)[i]?=(b[i]?).map fun v=>if (i:Int) ∈ l then { v with lo:=1 } else v
 | [],b,i=>by simp[lowAll]
 | j :: l,b,i=>by
  have:=Za l (setLow b j) i;unfold lowAll at this ⊢;rw[List.foldl_cons,this,J13]
  cases b[i]? with
  | none=>rfl
  | some v=>
   simp only[Option.map_some,List.mem_cons];by_cases c:(i:Int) ∈ l<;>by_cases d:(i:Int)=j<;>simp[c,d]
theorem J15 (b:List VarM)(j m:Int)(i:Nat):(setUp b j m)[i]?=(b[i]?).map fun v=>if (i:Int)=j then { v with up:=min v.up m } else v:=by simp[setUp,List.getElem?_mapIdx]
theorem J11 (b:List VarM)(j m:Int)(i:Nat):(setLo b j m)[i]?=(b[i]?).map fun v=>if (i:Int)=j then { v with lo:=max v.lo m } else v:=by simp[setLo,List.getElem?_mapIdx]
theorem Qn (b:List VarM)(j m:Int):(setUp b j m).length=b.length:=by simp[setUp]
theorem Qm (b:List VarM)(j m:Int):(setLo b j m).length=b.length:=by simp[setLo]
theorem Xg (a:Nat→Rat):∀ k,∀ t ∈ cutTerms a k,0≤t.v∧t.v < (k:Int)
 | 0,t,h=>by cases h
 | k+1,t,h=>by
  unfold cutTerms at h;rcases List.mem_append.1 h with h|h
  ·have:=Xg a k t h;omega
  ·split at h
   ·cases h
   ·obtain rfl:=List.mem_singleton.1 h;exact⟨by simp only[];omega,by simp only[];omega⟩
theorem Sq {y:List Rat}{i:Nat}(h:y.length≤i):atQ y i=0:=by unfold atQ;rw[List.getElem?_eq_none h];rfl
end Prf
end Go.Proofs.YtcjgimlcefhhmaaGreatDoor
namespace Go.Proofs.YtcjgimlcefhhmaaGreatDoor
open Go.RowKit
def Jy (Z:Array Value)(T:TypeId)(b:Nat)(w:World):Prop:=w.heap[b]?=some (.cells Z T (0,0))
theorem Jy.lt {d:Array Value}{T:TypeId}{b:Nat}{w:World}(h:Jy d T b w):b < w.heap.size:=by
 rcases Nat.lt_or_ge b w.heap.size with c|c
 ·exact c
 ·unfold Jy at h;rw[Array.getElem?_eq_none c] at h;cases h
theorem Jy.grow {c:Array Value}{T:TypeId}{b:Nat}{w w':World}(h:Jy c T b w)(g:Gr w w'):Jy c T b w':=by
 unfold Jy;rw[Below.block g b h.lt];exact h
theorem Jy.new (b:Array Value)(T:TypeId)(w:World):Jy b T w.heap.size (w.alloc (.cells b T)):=heap_alloc_new w _
def O7 (P:Program)(T:TypeId)(Z:Array Value):Prop:=
 ∀ w,(Instr.alloc T true (.tuple #[])).run P w = .ok (.pointer (some ⟨w.heap.size,0,none⟩)) (w.alloc (.cells Z T))
def ptr (b:Nat):Value:=.pointer (some ⟨b,0,none⟩)
section
variable {P:Program}{ops:Array Oper}{md:Region.Mode}{Q:Exit→Act→World→Prop}{zc:TypeId→Array Value}
theorem X5 {o:Oper}{T:TypeId}(c:o.op = .alloc T)(b:O7 P T (zc T))(ρ:Operand→Value)(w:World):
  (execOp ρ o).run P w = .ok (.value (ptr w.heap.size)) (w.alloc (.cells (zc T) T)):=by
 unfold execOp;simp only[c,Sem.run_bind,b w,Result.andThen_ok,Sem.run_pure];rfl
def wpF (P:Program)(ops:Array Oper)(Q:Exit→Act→World→Prop)(zc:TypeId→Array Value):List (Nat × Nat)→(Nat→Prop)→Act→World→Prop
 | [],_,a,w=>Q .normal a w
 | (i,k) :: rest,U,a,w=>∃ o,ops[i]?=some o∧
   if k=2 then ∀ T,o.op = .alloc T→∀ w1 b,Gr w w1→Jy (zc T) T b w1→¬ U b→wpF P ops Q zc rest (fun x=>U x∨x=b) (a.put o.dst (ptr b)) w1
   else if Region.wanted o (yielded ops a.tmps)=true then
    (if k=1 then ∃ v,(∀ w',Gr w w'→(execOp a.eval o).run P w' = .ok (.value v) w')∧wpF P ops Q zc rest U (a.put o.dst v) w
     else ∀ w1,Gr w w1→Oper.wp P o a w1 (fun a' w'=>relOf o w1 w'∧wpF P ops Q zc rest U a' w') Q)
   else wpF P ops Q zc rest U (a.put o.dst undef) w
theorem Qq:∀ (l:List (Nat × Nat)) (U d:Nat→Prop) (a:Act) (w:World),(∀ x,U x→d x)→wpF P ops Q zc l U a w→wpF P ops Q zc l d a w
 | [],_,_,_,_,_,h=>h
 | (i,k) :: rest,U,d,a,w,hU,⟨o,ho,h⟩=>by
  refine⟨o,ho,?_⟩;by_cases c:k=2
  ·rw[if_pos c] at h ⊢;exact fun T q j b g f n=>Qq rest _ _ _ _ (fun x u=>u.imp (hU x) id) (h T q j b g f (fun r=>n (hU b r)))
  ·rw[if_neg c] at h ⊢;by_cases p:Region.wanted o (yielded ops a.tmps)=true
   ·rw[if_pos p] at h ⊢;by_cases m:k=1
    ·rw[if_pos m] at h ⊢;obtain⟨v,s,h⟩:=h;exact⟨v,s,Qq rest _ _ _ _ hU h⟩
    ·rw[if_neg m] at h ⊢;exact fun j g=>Oper.wp_mono (fun y w' c=>⟨c.1,Qq rest _ _ _ _ hU c.2⟩) (h j g)
   ·rw[if_neg p] at h ⊢;exact Qq rest _ _ _ _ hU h
def hasAlloc:List (Nat × Nat)→Bool
 | []=>false
 | (_,k) :: rest=>k == 2 || hasAlloc rest
theorem Vn:∀ (l:List (Nat × Nat)) (U:Nat→Prop) (a:Act) (w w':World),hasAlloc l=true→Gr w w'→wpF P ops Q zc l U a w→wpF P ops Q zc l U a w'
 | [],_,_,_,_,h,_,_=>by simp[hasAlloc] at h
 | (i,k) :: rest,U,a,w,w',hl,g,⟨o,ho,h⟩=>by
  refine⟨o,ho,?_⟩;by_cases c:k=2
  ·rw[if_pos c] at h ⊢;exact fun T r d b g1 f n=>h T r d b (g.trans g1) f n
  ·have m:hasAlloc rest=true:=by simpa[hasAlloc,c] using hl
   rw[if_neg c] at h ⊢;by_cases p:Region.wanted o (yielded ops a.tmps)=true
   ·rw[if_pos p] at h ⊢;by_cases j:k=1
    ·rw[if_pos j] at h ⊢;obtain⟨v,s,h⟩:=h;exact⟨v,fun u q=>s u (g.trans q),Vn rest U _ _ _ m g h⟩
    ·rw[if_neg j] at h ⊢;exact fun d g1=>h d (g.trans g1)
   ·rw[if_neg p] at h ⊢;exact Vn rest U _ _ _ m g h
def earlyOK (ops:Array Oper)(i:Nat)(oi:Oper):List (Nat × Nat)→Bool
 | []=>false
 | (j,k) :: rest=>if j=i∧k=2 then true else (match ops[j]? with|some oj=>oi.apart ops oj && !isStore oj|none=>false) && earlyOK ops i oi rest
def eraseF (i:Nat):List (Nat × Nat)→List (Nat × Nat)
 | []=>[]
 | (j,k) :: rest=>if j=i∧k=2 then rest else (j,k) :: eraseF i rest
theorem X1 {i:Nat}{c:Oper}:∀ (l:List (Nat × Nat)),earlyOK ops i c l=true→(eraseF i l).length+1=l.length
 | [],h=>by simp[earlyOK] at h
 | (j,k) :: rest,h=>by
  unfold earlyOK at h;unfold eraseF
  split
  ·rfl
  ·rename_i b;rw[if_neg b] at h;simp only[Bool.and_eq_true] at h;simp[X1 rest h.2]
theorem Ub {i:Nat}:∀ (l:List (Nat × Nat)) (x:Nat × Nat),x ∈ eraseF i l→x ∈ l
 | [],x,h=>h
 | (j,k) :: rest,x,h=>by
  unfold eraseF at h
  split at h
  ·exact List.mem_cons_of_mem _ h
  ·rcases List.mem_cons.1 h with rfl|h
   ·exact List.mem_cons_self
   ·exact List.mem_cons_of_mem _ (Ub rest x h)
theorem J6Y {p j:Oper}{v:Value}(A:p.apart ops j=true)(C:∀ y b,j.op≠.select y b)
  (s:∀ c a d v w,Q (.panic c) a w→Q (.panic c) (a.put d v) w) {K q:Act→World→Prop} {a:Act} {w:World}
  (m:∀ k w',relOf j w w'→K k w'→q (k.put p.dst v) w')
  (h:Oper.wp P j a w (fun k w'=>relOf j w w'∧K k w') Q):Oper.wp P j (a.put p.dst v) w (fun k w'=>relOf j w w'∧q k w') Q:=by
 obtain⟨z,l,E⟩:=Oper.apart_spec A;unfold Oper.wp at *;rw[execOp_put j C a p.dst v z];generalize (execOp a.eval j).run P w=r at *
 cases r with
 | ok n w'=>
  cases n<;>simp only[Oper.upon] at h ⊢
  case value u=>exact⟨h.1,by rw[Act.put_comm a v u l];exact m _ _ h.1 h.2⟩
  case skip=>exact⟨h.1,by rw[Act.put_comm a v undef l];exact m _ _ h.1 h.2⟩
  case defer d=>
   refine⟨h.1,?_⟩;rw[Act.put_defers,Act.put_comm _ v undef l];exact m _ _ h.1 h.2
  case enter f args=>
   refine Calls.mono h fun e D g=>?_
   cases e with
   | returned u=>exact⟨g.1,by rw[Act.put_comm a v u l];exact m _ _ g.1 g.2⟩
   | panicked c=>exact s _ _ _ _ _ g
   | outgrown=>exact g
  case row row args=>exact Rows.mono h fun u D g=>⟨g.1,by rw[Act.put_comm a v u l];exact m _ _ g.1 g.2⟩
 | halt x w'=>
  cases x<;>simp only[Oper.upon] at h ⊢
  case panic u=>exact s _ _ _ _ _ h
theorem Qr {i:Nat}{p:Oper}{T:TypeId}{b:Nat}(u:ops[i]?=some p)(s:p.op = .alloc T)(n:∀ (j:Nat) (o:Oper) q b,ops[j]?=some o→o.op≠.select q b)
  (r:∀ c a d v w,Q (.panic c) a w→Q (.panic c) (a.put d v) w):
  ∀ (l:List (Nat × Nat)) (U:Nat→Prop) (a:Act) (w:World),earlyOK ops i p l=true→Jy (zc T) T b w→¬ U b→wpF P ops Q zc l U a w→wpF P ops Q zc (eraseF i l) (fun x=>U x∨x=b) (a.put p.dst (ptr b)) w
 | [],_,_,_,h,_,_,_=>by simp[earlyOK] at h
 | (j,k) :: rest,U,a,w,f,hf,hU,⟨o,ho,h⟩=>by
  unfold earlyOK at f;unfold eraseF;by_cases G:j=i∧k=2
  ·obtain⟨rfl,rfl⟩:=G;rw[if_pos ⟨rfl,rfl⟩];rw[u] at ho
   cases ho
   rw[if_pos rfl] at h;exact h T s w b (Gr.refl w) hf hU
  ·rw[if_neg G] at f ⊢;simp only[ho,Bool.and_eq_true,Bool.not_eq_true'] at f;obtain⟨⟨F,O⟩,f⟩:=f;obtain⟨E,z,V⟩:=Oper.apart_spec F;refine⟨o,ho,?_⟩;by_cases y:k=2
   ·rw[if_pos y] at h ⊢;intro K M C D g1 L J;have:=Qr u s n r rest _ _ _ f (hf.grow g1) (fun A=>A.elim hU (fun e=>J (.inr e.symm))) (h K M C D g1 L (fun A=>J (.inl A)));rw[Act.put_comm a (ptr b) (ptr D) z];exact Qq _ _ _ _ _ (fun x m=>by rcases m with(m|m)|m;exact .inl (.inl m);exact .inr m;exact .inl (.inr m)) this
   ·rw[if_neg y] at h ⊢;rw[wanted_put o a p.dst (ptr b) E];by_cases I:Region.wanted o (yielded ops a.tmps)=true
    ·rw[if_pos I] at h ⊢;by_cases H:k=1
     ·rw[if_pos H] at h ⊢;obtain⟨v,R,h⟩:=h;refine⟨v,fun w' g=>by rw[execOp_put o (fun q b=>n j o q b ho) a p.dst _ E];exact R w' g,?_⟩;rw[Act.put_comm a (ptr b) v z];exact Qr u s n r rest _ _ _ f hf hU h
     ·rw[if_neg H] at h ⊢;intro C g1;refine J6Y F (fun q b=>n j o q b ho) r (fun S w' N y=>?_) (h C g1);exact Qr u s n r rest _ _ _ f ((hf.grow g1).grow (N O)) hU y
    ·rw[if_neg I] at h ⊢;rw[Act.put_comm a (ptr b) undef z];exact Qr u s n r rest _ _ _ f hf hU h
def okF (md:Region.Mode)(ops:Array Oper):Nat→List (Nat × Nat)→Array Bool→Bool
 | 0,_,_=>false
 | _+1,[],listed=>(Region.ready md ops listed).isEmpty
 | f+1,(i,k) :: rest,listed=>(Region.ready md ops listed).contains i &&
   if k=1 then freeG md ops listed i && okF md ops f rest (listed.setIfInBounds i true)
   else okF md ops f rest (listed.setIfInBounds i true) && (k == 2 || !hasAlloc rest || (match ops[i]? with|some o => !isStore o|none=>false)) &&
    (Region.ready md ops listed).all fun j=>j == i || ((match ops[j]? with|some oj=>earlyOK ops j oj ((i,k) :: rest)|none=>false) && okF md ops f (eraseF j ((i,k) :: rest)) (listed.setIfInBounds j true))
theorem Xv {i:Nat}{f:Oper}:∀ (l:List (Nat × Nat)),earlyOK ops i f l=true→(i,2) ∈ l∧hasAlloc l=true
 | [],h=>by simp[earlyOK] at h
 | (j,k) :: rest,h=>by
  unfold earlyOK at h;by_cases b:j=i∧k=2
  ·obtain⟨rfl,rfl⟩:=b;exact⟨List.mem_cons_self,by simp[hasAlloc]⟩
  ·rw[if_neg b] at h;simp only[Bool.and_eq_true] at h;obtain⟨c,d⟩:=Xv rest h.2;exact⟨List.mem_cons_of_mem _ c,by simp[hasAlloc,d]⟩
theorem J6S (N:Region.noSelect ops=true)(O:∀ c a d v w,Q (.panic c) (a.put d v) w→Q (.panic c) a w)(a0:∀ c a d v w,Q (.panic c) a w→Q (.panic c) (a.put d v) w):
  ∀ (n:Nat) (l:List (Nat × Nat)),l.length=n→∀ (f:Nat) (u:Array Bool) (U:Nat→Prop) (a:Act) (w:World),J7 md ops u→okF md ops f l u=true→
   (∀ i,(i,2) ∈ l→∃ o T,ops[i]?=some o∧o.guard=none∧o.op = .alloc T∧O7 P T (zc T))→(hasAlloc l=true→∀ b,U b→b < w.heap.size)→
   wpF P ops Q zc l U a w→wpAnyG P md ops Q n u a w:=by
 intro n
 induction n with
 | zero=>
  intro l E f u U a w p g z s h;have:l=[]:=List.eq_nil_of_length_eq_zero E;subst this
  cases f with
  | zero=>simp[okF] at g
  | succ f=>exact⟨by simpa[okF] using g,h⟩
 | succ n ih=>
  intro l E f u U a w p g z s h
  match l,E with
  | (i,k) :: rest,E=>
  have F:rest.length=n:=by simpa using E
  have A:∀ i,(i,2) ∈ rest→∃ o T,ops[i]?=some o∧o.guard=none∧o.op = .alloc T∧O7 P T (zc T):=fun i hi=>z i (List.mem_cons_of_mem _ hi)
  cases f with
  | zero=>simp[okF] at g
  | succ f=>
  have h0:=h;obtain⟨o,y,h⟩:=h;unfold okF at g;simp only[Bool.and_eq_true] at g;obtain⟨hr,g⟩:=g;have q:i ∈ Region.ready md ops u:=by simpa using hr
  by_cases L:k=1
  ·subst L;have R:hasAlloc rest=true→∀ b,U b→b < w.heap.size:=fun x=>s (by simp[hasAlloc,x]);rw[if_pos rfl,Bool.and_eq_true] at g;rw[if_neg (by omega)] at h;by_cases r:Region.wanted o (yielded ops a.tmps)=true
   ·rw[if_pos r,if_pos rfl] at h;obtain⟨v,hv,h⟩:=h;exact Mu y (Region.noSelect_spec N) O n u a w p (On y g.1) q (.mk r hv) (ih rest F f _ U _ w (p.set q) g.2 A R h)
   ·rw[if_neg r] at h;exact Mu y (Region.noSelect_spec N) O n u a w p (On y g.1) q (.inr ⟨by simpa using r,rfl⟩) (ih rest F f _ U _ w (p.set q) g.2 A R h)
  ·rw[if_neg L] at g;simp only[Bool.and_eq_true,List.all_eq_true] at g;obtain⟨⟨g,a6⟩,a1⟩:=g;refine⟨fun hn=>(by rw[hn] at q;cases q),fun j S=>?_⟩;by_cases W:j=i
   ·subst W;unfold gOp wpOp;simp only[y];by_cases K:k=2
    ·subst K;rw[if_pos rfl] at h;obtain⟨o',T,G,I,C,H⟩:=z j List.mem_cons_self;rw[y] at G;cases G;rw[if_pos (by simp[Region.wanted,I])];refine .inl ?_;unfold Oper.wp;rw[X5 C H];simp only[Oper.upon];have g1:Gr w (w.alloc (.cells (zc T) T)):=(Gr.refl w).alloc _;refine⟨fun _ _ _=>g1,ih rest F f _ _ _ _ (p.set q) g A (fun x b m=>?_) (h T C _ _ g1 (Jy.new _ _ w) (fun m=>?_))⟩
     ·rw[World.size_alloc];rcases m with m|m
      ·have:=s (by simp[hasAlloc]) b m;omega
      ·omega
     ·have:=s (by simp[hasAlloc]) _ m;omega
    ·rw[if_neg K] at h;by_cases r:Region.wanted o (yielded ops a.tmps)=true
     ·rw[if_pos r,if_neg L] at h;rw[if_pos r];refine .inl (Oper.wp_mono (fun Y w' M=>⟨fun o' G=>?_,?_⟩) (h w (Gr.refl w)))
      ·cases G;exact M.1
      ·refine ih rest F f _ U Y w' (p.set q) g A (fun x b m=>?_) M.2;have h1:=s (by simp[hasAlloc,x]) b m;have h2:isStore o=false:=by simpa[K,x,y] using a6
       exact Nat.lt_of_lt_of_le h1 (M.1 h2).size
     ·rw[if_neg r] at h;rw[if_neg r];exact⟨fun _ _=>relOf.refl _ _,ih rest F f _ U _ w (p.set q) g A (fun x=>s (by simp[hasAlloc,x])) h⟩
   ·have V:=a1 j S;simp only[Bool.or_eq_true,beq_iff_eq,W,false_or,Bool.and_eq_true] at V;obtain⟨D,a5⟩:=V
    cases hoj:ops[j]? with
    | none=>simp[hoj] at D
    | some oj=>
     simp only[hoj] at D;obtain⟨a3,J⟩:=Xv _ D;obtain⟨a8,T,X,I,C,H⟩:=z j a3;rw[hoj] at X;cases X;unfold gOp wpOp;simp only[hoj];rw[if_pos (by simp[Region.wanted,I])];refine .inl ?_;unfold Oper.wp;rw[X5 C H];simp only[Oper.upon];have g1:Gr w (w.alloc (.cells (zc T) T)):=(Gr.refl w).alloc _;have a4:¬ U w.heap.size:=fun m=>by have:=s J _ m;omega
     have hE:=Qr hoj C (Region.noSelect_spec N) a0 _ U a _ D (Jy.new (zc T) T w) a4 (Vn _ U a w _ J g1 h0);have a7:=X1 _ D;refine⟨fun _ _ _=>g1,ih (eraseF j ((i,k) :: rest)) (by omega) f _ _ _ _ (p.set S) a5 (fun i' a2=>z i' (Ub _ _ a2)) (fun _ b m=>?_) hE⟩;rw[World.size_alloc];rcases m with m|m
     ·have:=s J b m;omega
     ·omega
theorem O3 {id:Nat}{a:Act}{w:World}(zc:TypeId→Array Value)(f:Nat)(g:List (Nat × Nat))(r:P.follows .mixedOrders=true)(u:Region.noSelect ops=true)
  (s:g.length=ops.size) (m:okF .any ops f g (Array.replicate ops.size false)=true) (n:∀ c a d v w,Q (.panic c) (a.put d v) w→Q (.panic c) a w) (p:∀ c a d v w,Q (.panic c) a w→Q (.panic c) (a.put d v) w)
  (l:∀ i,(i,2) ∈ g→∃ o T,ops[i]?=some o∧o.guard=none∧o.op = .alloc T∧O7 P T (zc T))
  (h:wpF P ops Q zc g (fun b=>b < w.heap.size) a w.drew):(Code.region id ops true).wp P Q a w:=by
 refine wp_region_any r (Oa _ _ _ _ ?_);have:=J6S (md:=.any) u n p g.length g rfl f (Array.replicate ops.size false) (fun b=>b < w.heap.size) a w.drew
  (fun j o _ k=>by simp[Array.getElem?_replicate] at k;split at k<;>simp at k) m l (fun _ b q=>q) h
 rw[s] at this;exact this
variable {rest:List (Nat × Nat)}{U:Nat→Prop}{a:Act}{w:World}{o:Oper}{i:Nat}
theorem Nq (h:Q .normal a w):wpF P ops Q zc [] U a w:=h
theorem J6 {b:World}(c:Gr b w)(f:ops[i]?=some o)(j:Region.wanted o (yielded ops a.tmps)=true){v:Value}(g:∀ w',Gr b w'→(execOp a.eval o).run P w' = .ok (.value v) w')
  (h:∀ K:Act→World→Prop,(∀ a w,wpF P ops Q zc rest U a w→K a w)→K (a.put o.dst v) w):wpF P ops Q zc ((i,1) :: rest) U a w:=
 ⟨o,f,by rw[if_neg (by omega),if_pos j,if_pos rfl];exact⟨v,fun w' d=>g w' (c.trans d),h _ (fun _ _ h=>h)⟩⟩
theorem Ke (d:ops[i]?=some o)(f:Region.wanted o (yielded ops a.tmps)=true)
  (h:∀ K:Act→World→Prop,(∀ a w,wpF P ops Q zc rest U a w→K a w)→∀ b,Gr w b→Oper.wp P o a b (fun c w'=>relOf o b w'∧K c w') Q):wpF P ops Q zc ((i,0) :: rest) U a w:=
 ⟨o,d,by rw[if_neg (by omega),if_pos f,if_neg (by omega)];exact h _ (fun _ _ h=>h)⟩
theorem Mf {T:TypeId}(k:ops[i]?=some o)(j:o.op = .alloc T)
  (h:∀ K:Act→World→Prop,∀ c b,Gr w c→Jy (zc T) T b c→¬ U b→(∀ a w,wpF P ops Q zc rest (fun x=>U x∨x=b) a w→K a w)→K (a.put o.dst (.pointer (some ⟨b,0,none⟩))) c):wpF P ops Q zc ((i,2) :: rest) U a w:=
 ⟨o,k,by rw[if_pos rfl];intro l d c b g f n;rw[j] at d;cases d;exact h _ c b g f n (fun _ _ h=>h)⟩
end
end Go.Proofs.YtcjgimlcefhhmaaGreatDoor
namespace Go.Proofs.YtcjgimlcefhhmaaGreatDoor
open Go.RowKit
section region
variable {P:Program}{ops:Array Oper}{md:Region.Mode}{Q:Exit→Act→World→Prop}
def predsM (md:Region.Mode):List Edge→Nat
 | []=>0
 | e :: l=>bif Region.binds md e then Nat.lor (Nat.pow 2 e.on) (predsM md l) else predsM md l
theorem Nn {k:Nat}:∀ l:List Edge,(predsM md l).testBit k=true↔∃ e ∈ l,Region.binds md e=true∧e.on=k
 | []=>by simp[predsM]
 | e :: l=>by
  have b:=Nn (k:=k) l;unfold predsM
  cases hb:Region.binds md e
  ·simp[b,hb]
  ·show((2 ^ e.on ||| predsM md l).testBit k=true)↔_;rw[Nat.testBit_or,Bool.or_eq_true,b,Nat.testBit_two_pow];simp[hb]
def subM (p L:Nat):Bool:=Nat.beq (Nat.land p L) p
theorem U6 {p L:Nat}:subM p L=true↔∀ k,p.testBit k=true→L.testBit k=true:=by
 unfold subM;rw[Nat.beq_eq];show(p &&& L=p)↔_;constructor
 ·intro h k b;rw[← h,Nat.testBit_and,Bool.and_eq_true] at b;exact b.2
 ·intro h;apply Nat.eq_of_testBit_eq;intro k;rw[Nat.testBit_and]
  cases hp:p.testBit k
  ·rfl
  ·rw[h k hp];rfl
def tb (m n:Nat):Bool:=Nat.beq (Nat.land 1 (Nat.shiftRight m n)) 1
theorem Np (m n:Nat):tb m n=m.testBit n:=by
 unfold tb Nat.testBit;have h:Nat.land 1 (Nat.shiftRight m n)=(m >>> n) % 2:=by
  show 1 &&& (m >>> n)=_;rw[Nat.and_comm,Nat.and_one_is_mod]
 show Nat.beq (Nat.land 1 (Nat.shiftRight m n)) 1=(1 &&& (m >>> n) != 0)
 rw[show 1 &&& (m >>> n)=Nat.land 1 (Nat.shiftRight m n) from rfl,h];have:=Nat.mod_lt (m >>> n) (show 0 < 2 by decide);generalize (m >>> n) % 2=x at *
 match x,this with
 | 0,_=>rfl
 | 1,_=>rfl
def waitsM (md:Region.Mode)(I:Nat):List Oper→Nat→Nat→Nat
 | [],_,W=>W
 | o :: l,k,W=>bif Nat.beq (Nat.land (predsM md o.after.toList) (Nat.lor W I)) 0 then waitsM md I l (k+1) W else waitsM md I l (k+1) (Nat.lor W (Nat.pow 2 k))
theorem N8 {i:Nat}:∀ (l:List Oper) (k W:Nat),(∀ j,l[j]?=ops[k+j]?)→(∀ j,W.testBit j=true→Jz md ops i j)→
  ∀ j,(waitsM md (2 ^ i) l k W).testBit j=true→Jz md ops i j
 | [],_,_,_,hW=>hW
 | o :: l,k,W,hl,hW=>by
  have m:∀ j,l[j]?=ops[k+1+j]?:=fun j=>by
   have:=hl (j+1);simpa[Nat.add_assoc,Nat.add_comm 1 j] using this
  have f:ops[k]?=some o:=by simpa using(hl 0).symm
  unfold waitsM
  cases hb:Nat.beq (Nat.land (predsM md o.after.toList) (Nat.lor W (2 ^ i))) 0
  ·refine N8 l (k+1) _ m (fun j b=>?_);have b:(W ||| 2 ^ k).testBit j=true:=b;rw[Nat.testBit_or,Bool.or_eq_true,Nat.testBit_two_pow] at b;rcases b with b|b
   ·exact hW j b
   ·obtain rfl:k=j:=by simpa using b
    have n:predsM md o.after.toList &&& (W ||| 2 ^ i)≠0:=fun h=>by
     rw[show Nat.land (predsM md o.after.toList) (Nat.lor W (2 ^ i))=predsM md o.after.toList &&& (W ||| 2 ^ i) from rfl,h] at hb
     cases hb
    obtain⟨t,d⟩:=Nat.exists_testBit_of_ne_zero n;rw[Nat.testBit_and,Nat.testBit_or,Bool.and_eq_true,Bool.or_eq_true,Nat.testBit_two_pow] at d;obtain⟨e,c,g,rfl⟩:=(Nn _).1 d.1;have c:e ∈ o.after:=by simpa using c
    rcases d.2 with h|h
    ·exact .step f c g (hW _ h)
    ·exact .base f c g (by simpa using Eq.symm (by simpa using h))
  ·exact N8 l (k+1) _ m hW
def freeM (ops:Array Oper)(oi:Oper)(skip:Nat):List Oper→Nat→Bool
 | [],_=>true
 | o :: l,j=>(tb skip j || (oi.apart ops o && (!isStore o || pureOp oi))) && freeM ops oi skip l (j+1)
theorem Qb {b:Oper}{skip:Nat}:∀ (l:List Oper) (k:Nat),(∀ j,l[j]?=ops[k+j]?)→freeM ops b skip l k=true→
  ∀ j o,k≤j→ops[j]?=some o→skip.testBit j=false→b.apart ops o=true∧(isStore o=false∨pureOp b=true)
 | [],k,hl,_,j,o,hk,hj,_=>by
  have:=hl (j - k);rw[show k+(j - k)=j by omega,hj] at this
  cases this
 | o' :: l,k,hl,h,j,o,hk,hj,hs=>by
  unfold freeM at h;rw[Bool.and_eq_true] at h;by_cases f:j=k
  ·subst f;have d:ops[j]?=some o':=by simpa using(hl 0).symm
   rw[d] at hj
   cases hj
   have c:=h.1;rw[Np,hs,Bool.false_or] at c;simpa using c
  ·exact Qb l (k+1) (fun j=>by have:=hl (j+1);simpa[Nat.add_assoc,Nat.add_comm 1 j] using this) h.2 j o (by omega) hj hs
def onlyM (md:Region.Mode)(L skip:Nat):List Oper→Nat→Bool
 | [],_=>true
 | o :: l,j=>(tb skip j || !subM (predsM md o.after.toList) L) && onlyM md L skip l (j+1)
theorem M7 {L skip:Nat}:∀ (l:List Oper) (k:Nat),(∀ j,l[j]?=ops[k+j]?)→onlyM md L skip l k=true→
  ∀ j o,k≤j→ops[j]?=some o→skip.testBit j=false→subM (predsM md o.after.toList) L=false
 | [],k,hl,_,j,o,hk,hj,_=>by
  have:=hl (j - k);rw[show k+(j - k)=j by omega,hj] at this
  cases this
 | o' :: l,k,hl,h,j,o,hk,hj,hs=>by
  unfold onlyM at h;rw[Bool.and_eq_true] at h;by_cases d:j=k
  ·subst d;have c:ops[j]?=some o':=by simpa using(hl 0).symm
   rw[c] at hj
   cases hj
   have b:=h.1;rw[Np,hs,Bool.false_or] at b;simpa using b
  ·exact M7 l (k+1) (fun j=>by have:=hl (j+1);simpa[Nat.add_assoc,Nat.add_comm 1 j] using this) h.2 j o (by omega) hj hs
def fastB (md:Region.Mode)(ops:Array Oper)(os:List Oper):List (Nat × Bool)→Nat→Bool
 | [],L=>onlyM md L L os 0
 | (i,r) :: rest,L=>match os[i]? with
  | none=>false
  | some oi=>(!tb L i && subM (predsM md oi.after.toList) L) &&
   ((bif r then freeM ops oi (Nat.lor (Nat.lor L (Nat.pow 2 i)) (waitsM md (Nat.pow 2 i) os 0 0)) os 0 else onlyM md L (Nat.lor L (Nat.pow 2 i)) os 0) &&
    fastB md ops os rest (Nat.lor L (Nat.pow 2 i)))
theorem Mq {L:Nat}{b:Array Bool}(q:b.size=ops.size)(f:∀ j,b.getD j false=L.testBit j){i:Nat}{o:Oper}(l:ops[i]?=some o):
  i ∈ Region.ready md ops b↔L.testBit i=false∧subM (predsM md o.after.toList) L=true:=by
 have n:i < b.size:=by rw[q];exact(Array.getElem?_eq_some_iff.1 l).1
 have e:b.getD i true=L.testBit i:=by rw[← f i];simp[n]
 rw[mem_ready,e,U6];constructor
 ·rintro⟨c,r,m,d⟩;rw[l] at m
  cases m
  refine⟨c,fun k p=>?_⟩;obtain⟨e,h,g,rfl⟩:=(Nn _).1 p;rw[← f];exact d e (by simpa using h) g
 ·rintro⟨c,d⟩;exact⟨c,o,l,fun e h g=>by rw[f];exact d _ ((Nn _).2 ⟨e,by simpa using h,g,rfl⟩)⟩
theorem Qo {L i:Nat}{b:Array Bool}(d:i < b.size)(c:∀ j,b.getD j false=L.testBit j)(j:Nat):
  (b.setIfInBounds i true).getD j false=(Nat.lor L (Nat.pow 2 i)).testBit j:=by
 show _=(L ||| 2 ^ i).testBit j;rw[Nat.testBit_or,Nat.testBit_two_pow,← c j];by_cases h:i=j
 ·subst h;simp[d]
 ·rw[getD_set_ne false h];simp[h]
theorem Mt (s:Region.noSelect ops=true)(p:∀ c a d v w,Q (.panic c) (a.put d v) w→Q (.panic c) a w):
  ∀ (l:List (Nat × Bool)) (L:Nat) (b:Array Bool) (a:Act) (w:World),b.size=ops.size→(∀ j,b.getD j false=L.testBit j)→J7 md ops b→fastB md ops ops.toList l L=true→wpE P ops Q l a w→wpAnyG P md ops Q l.length b a w
 | [],L,b,a,w,hz,hL,_,y,h=>by
  refine⟨?_,h⟩;rw[List.eq_nil_iff_forall_not_mem];intro j f;obtain⟨_,o,g,_⟩:=mem_ready.1 f;have u:=(Mq hz hL g).1 f;have x:=M7 ops.toList 0 (by simp) y j o (Nat.zero_le _) g u.1;rw[u.2] at x
  cases x
 | (i,r) :: l,L,b,a,w,hz,hL,hc,y,h=>by
  obtain⟨o,g,h⟩:=h;have N:i < b.size:=by rw[hz];exact(Array.getElem?_eq_some_iff.1 g).1
  have D:ops.toList[i]?=some o:=by simpa using g
  simp only[fastB,D,Bool.and_eq_true,Np] at y;obtain⟨⟨T,V⟩,q,z⟩:=y;have m:i ∈ Region.ready md ops b:=(Mq hz hL g).2 ⟨by simpa using T,V⟩;have C:(b.setIfInBounds i true).size=ops.size:=by simpa using hz
  have A:=Qo N hL
  cases r
  ·have q:onlyM md L (Nat.lor L (Nat.pow 2 i)) ops.toList 0=true:=q;have S:∀ j ∈ Region.ready md ops b,j=i:=fun j f=>by
    obtain⟨_,n,I,_⟩:=mem_ready.1 f;have u:=(Mq hz hL I).1 f;by_cases G:j=i
    ·exact G
    ·have K:(Nat.lor L (Nat.pow 2 i)).testBit j=false:=by
      show(L ||| 2 ^ i).testBit j=false;rw[Nat.testBit_or,u.1,Nat.testBit_two_pow];simp[Ne.symm G]
     have x:=M7 ops.toList 0 (by simp) q j n (Nat.zero_le _) I K;rw[u.2] at x
     cases x
   refine⟨fun J=>(by rw[J] at m;cases m),fun j f=>?_⟩;obtain rfl:=S j f;have E:J7 md ops (b.setIfInBounds j true):=hc.set m;unfold gOp wpOp;simp only[g];by_cases k:Region.wanted o (yielded ops a.tmps)=true
   ·rw[if_pos k,if_neg (by simp)] at h;rw[if_pos k];refine .inl (Oper.wp_mono (fun Y w' H=>⟨fun o' D=>?_,Mt s p l _ _ _ _ C A E z H.2⟩) h)
    cases D;exact H.1
   ·rw[if_neg k] at h;rw[if_neg k];exact⟨fun _ _=>relOf.refl _ _,Mt s p l _ _ _ _ C A E z h⟩
  ·have q:freeM ops o (Nat.lor (Nat.lor L (Nat.pow 2 i)) (waitsM md (Nat.pow 2 i) ops.toList 0 0)) ops.toList 0=true:=q;have F:∀ j n,ops[j]?=some n→j≠i→b.getD j true=false→¬ Jz md ops i j→o.apart ops n=true∧(isStore n=false∨pureOp o=true):=fun j n f O W R=>by
    refine Qb ops.toList 0 (by simp) q j n (Nat.zero_le _) f ?_;have M:j < b.size:=by rw[hz];exact(Array.getElem?_eq_some_iff.1 f).1
    have e:b.getD j true=L.testBit j:=by rw[← hL j];simp[M]
    show((L ||| 2 ^ i) ||| waitsM md (2 ^ i) ops.toList 0 0).testBit j=false;rw[Nat.testBit_or,Nat.testBit_or,← e,W,Nat.testBit_two_pow]
    cases hwt:(waitsM md (2 ^ i) ops.toList 0 0).testBit j
    ·simp[Ne.symm O]
    ·exact absurd (N8 (md:=md) (ops:=ops) (i:=i) ops.toList 0 0 (by simp) (by simp) j hwt) R
   by_cases k:Region.wanted o (yielded ops a.tmps)=true
   ·rw[if_pos k,if_pos rfl] at h;obtain⟨v,X,h⟩:=h;exact Mu g (Region.noSelect_spec s) p l.length b a w hc F m (.mk k X) (Mt s p l _ _ _ _ C A (hc.set m) z h)
   ·rw[if_neg k] at h;exact Mu g (Region.noSelect_spec s) p l.length b a w hc F m (.inr ⟨by simpa using k,rfl⟩) (Mt s p l _ _ _ _ C A (hc.set m) z h)
theorem Vq {id:Nat}{a:Act}{w:World}(b:List (Nat × Bool))(m:P.follows .mixedOrders=true)(p:Region.noSelect ops=true)
  (n:b.length=ops.size) (g:fastB .any ops ops.toList b 0=true) (k:∀ c a d v w,Q (.panic c) (a.put d v) w→Q (.panic c) a w)
  (h:wpE P ops Q b a w.drew):(Code.region id ops true).wp P Q a w:=by
 refine wp_region_any m (Oa _ _ _ _ ?_);have:=Mt (md:=.any) p k b 0 (Array.replicate ops.size false) a w.drew (by simp) (fun j=>by
  rw[Nat.zero_testBit];by_cases l:j < ops.size<;>simp[Array.getElem?_replicate,l]) (fun j o _ f=>by simp[Array.getElem?_replicate] at f;split at f<;>simp at f) g h
 rw[n] at this;exact this
end region
theorem Vk {P:Program}{ops:Array Oper}{Q:Exit→Act→World→Prop}{i:Nat}{rest:List (Nat × Bool)}{a:Act}{w:World}{o:Oper}{f:FuncId}{args:Array Value}
  (g:ops[i]?=some o) (j:Region.wanted o (yielded ops a.tmps)=true) (k:(execOp a.eval o).run P w = .ok (.enter f args) w)
  (h:∀ K:Act→World→Prop,(∀ a w,wpE P ops Q rest a w→K a w)→Calls P f args w fun e w'=>∃ v,e = .returned v∧Gr w w'∧K (a.put o.dst v) w'):wpE P ops Q ((i,false) :: rest) a w:=by
 refine Jj g j fun K b=>?_;unfold Oper.wp;rw[k];simp only[Oper.upon];refine(h K b).mono ?_;rintro e w' ⟨v,rfl,c,d⟩;exact⟨fun _=>c,d⟩
theorem Rd {P:Program}{ρ:Operand→Value}{o:Oper}{w:World}{c:Call}{x:Operand}{f:FuncId}{first d:Array Value}{b:Func}(p:o.op = .call c)(k:c.callee = .value x)
  (q : ρ x = .func (.func f) first d) (l : P.funcs[f]? = some b) (m : (b.name == "runtime.NumGoroutine") = false) (g : b.body.isNone = false) :
  (execOp ρ o).run P w = .ok (.enter f ((first ++ c.args.map ρ) ++ d)) w:=by
 have n : ¬ b.name = "runtime.NumGoroutine" := by simpa using m
 have j:¬ b.body=none:=by intro h;rw[h] at g;cases g
 unfold execOp;simp only[p,resolve,k,q,Deferred.ofValue,invoke,callFunc];simp[go_sem,l,n,j]
theorem L7 {P:Program}{ops:Array Oper}{Q:Exit→Act→World→Prop}{i:Nat}{rest:List (Nat × Bool)}{a:Act}{w:World}{o:Oper}{c:Call}{x:Operand}{f:FuncId}{first d args:Array Value}{b:Func}
  (n:ops[i]?=some o) (q:Region.wanted o (yielded ops a.tmps)=true) (p:o.op = .call c) (k:c.callee = .value x) (r:a.eval x = .func (.func f) first d)
  (l : P.funcs[f]? = some b) (m : (b.name == "runtime.NumGoroutine") = false) (j : b.body.isNone = false) (g : (first ++ c.args.map a.eval) ++ d = args)
  (h:∀ K:Act→World→Prop,(∀ a w,wpE P ops Q rest a w→K a w)→Calls P f args w fun e w'=>∃ v,e = .returned v∧Gr w w'∧K (a.put o.dst v) w'):wpE P ops Q ((i,false) :: rest) a w:=
 Vk n q (by rw[Rd p k r l m j,g]) h
theorem Je {P:Program}{ops:Array Oper}{Q:Exit→Act→World→Prop}{i:Nat}{rest:List (Nat × Bool)}{a:Act}{w:World}{o:Oper}{c:Call}{x:Operand}{f:FuncId}{first l args j:Array Value}{b:Func}{S:Value→World→Prop}{d:Value→Act}
  (A:ops[i]?=some o:=by exact rfl) (F:Region.wanted o (yielded ops a.tmps)=true:=by exact rfl) (C:o.op = .call c:=by exact rfl) (s:c.callee = .value x:=by exact rfl) (G:a.eval x = .func (.func f) first l:=by exact rfl)
  (y : P.funcs[f]? = some b := by exact rfl) (z : (b.name == "runtime.NumGoroutine") = false := by kernel_rfl) (q : b.body.isNone = false := by kernel_rfl) (p : (first ++ c.args.map a.eval) ++ l = j := by (go_simp; rfl)) (n : j = args := by exact rfl)
  (u:∀ v,a.put o.dst v=d v:=by(intro v;go_simp;rfl)) (k:Calls P f args w (Ret w S)) (h:∀ r w',Gr w w'→S r w'→wpE P ops Q rest (d r) w'):wpE P ops Q ((i,false) :: rest) a w:=
 L7 A F C s G y z q (p.trans n) fun K m=>k.mono fun _ w' ⟨r,D,g,E⟩=>⟨r,D,g,m _ _ (u r ▸ h r w' g E)⟩
theorem Jl {P:Program}{ops:Array Oper}{Q:Exit→Act→World→Prop}{id:Nat}{a:Act}{w:World}(b:List (Nat × Bool))(h:wpE P ops Q b a w.drew)(j:P.follows .mixedOrders=true:=by kernel_rfl)(l:Region.noSelect ops=true:=by kernel_rfl)
  (k:b.length=ops.size:=by exact rfl) (f:fastB .any ops ops.toList b 0=true:=by kernel_rfl) (g:∀ c a d v w,Q (.panic c) (a.put d v) w→Q (.panic c) a w:=by(intro _ _ d _ _ h;cases d<;>exact h)):(Code.region id ops true).wp P Q a w:=
 Vq b j l k f g h
end Go.Proofs.YtcjgimlcefhhmaaGreatDoor
namespace Go.Proofs.YtcjgimlcefhhmaaGreatDoor
open Go.RowKit
inductive Tr where
 | stop:Tr
 | read:Nat→Tr→Tr
 | one:Nat→Tr→Tr
 | two:Nat→Tr→Nat→Tr→Tr
def Tr.len:Tr→Nat
 | .stop=>0
 | .read _ t=>t.len+1
 | .one _ t=>t.len+1
 | .two _ t _ _=>t.len+1
section region
variable {P:Program}{ops:Array Oper}{md:Region.Mode}{Q:Exit→Act→World→Prop}
def readyM (md:Region.Mode)(os:List Oper)(L i:Nat):Bool:=match os[i]? with
 | none=>false
 | some o => !tb L i && subM (predsM md o.after.toList) L
theorem Us {L i:Nat}{b:Array Bool}(g:b.size=ops.size)(c:∀ j,b.getD j false=L.testBit j)(h:readyM md ops.toList L i=true):i ∈ Region.ready md ops b:=by
 unfold readyM at h
 split at h
 ·cases h
 ·rename_i o d;simp only[Bool.and_eq_true,Np] at h;have f:ops[i]?=some o:=by simpa using d
  exact(Mq g c f).2 ⟨by simpa using h.1,h.2⟩
end region
section steps
variable {P:Program}{ops:Array Oper}{Q:Exit→Act→World→Prop}{i:Nat}{t:Tr}{a:Act}{w:World}{o:Oper}
end steps
end Go.Proofs.YtcjgimlcefhhmaaGreatDoor
namespace Go.Proofs.YtcjgimlcefhhmaaGreatDoor
namespace Prf
theorem Zf {c:List VarM}{j m:Int}{v:VarM}(h:v ∈ setUp c j m):∃ u ∈ c,v=u∨v={ u with up:=min u.up m }:=by
 obtain⟨i,d,rfl⟩:=List.getElem_of_mem h;have b:=J15 c j m i;rw[List.getElem?_eq_getElem d] at b
 cases h2:c[i]? with
 | none=>rw[h2] at b;cases b
 | some u=>
  rw[h2] at b;simp only[Option.map_some,Option.some.injEq] at b;refine⟨u,List.mem_of_getElem? h2,?_⟩;rw[b]
  split
  ·exact .inr rfl
  ·exact .inl rfl
theorem Ze {c:List VarM}{j m:Int}{v:VarM}(h:v ∈ setLo c j m):∃ u ∈ c,v=u∨v={ u with lo:=max u.lo m }:=by
 obtain⟨i,d,rfl⟩:=List.getElem_of_mem h;have b:=J11 c j m i;rw[List.getElem?_eq_getElem d] at b
 cases h2:c[i]? with
 | none=>rw[h2] at b;cases b
 | some u=>
  rw[h2] at b;simp only[Option.map_some,Option.some.injEq] at b;refine⟨u,List.mem_of_getElem? h2,?_⟩;rw[b]
  split
  ·exact .inr rfl
  ·exact .inl rfl
theorem J46 {p:Prg}{v m:Int}(c:Jo p)(d:Whole p)(n : -1099511627776≤m)(q:m < 1099511627776):Jo (lowPart p v m)∧Whole (lowPart p v m):=by
 refine⟨⟨by simp[lowPart,Qn];exact c.1,c.2.1,fun x f=>?_,fun r g=>?_⟩,fun x f=>?_⟩
 ·obtain⟨u,b,rfl|rfl⟩:=Zf f
  ·exact c.2.2.1 _ b
  ·obtain⟨j,k,l,s⟩:=c.2.2.1 _ b;refine⟨j,?_,l,fun h=>?_⟩
   ·unfold In at k ⊢;simp only[];omega
   ·have:=(d u b).2;simp only[] at h;rw[this] at h;exact absurd h.1 (by decide)
 ·have:=c.2.2.2 r g;unfold lowPart;simp only[Qn];exact this
 ·obtain⟨u,b,rfl|rfl⟩:=Zf f
  ·exact d _ b
  ·exact d u b
theorem J3x {p:Prg}{v m:Int}(b:Jo p)(f:Whole p)(n : -1099511627776≤m)(q:m < 1099511627776):Jo (highPart p v m)∧Whole (highPart p v m):=by
 refine⟨⟨by simp[highPart,Qm];exact b.1,b.2.1,fun x d=>?_,fun r g=>?_⟩,fun x d=>?_⟩
 ·obtain⟨u,c,rfl|rfl⟩:=Ze d
  ·exact b.2.2.1 _ c
  ·obtain⟨h,j,k,l⟩:=b.2.2.1 _ c;refine⟨?_,j,k,l⟩;unfold In at h ⊢;simp only[];omega
 ·have:=b.2.2.2 r g;unfold highPart;simp only[Qm];exact this
 ·obtain⟨u,c,rfl|rfl⟩:=Ze d
  ·exact f _ c
  ·exact f u c
theorem Ym {n:Nat}(t:Ji):∀ (l:List Ji) (b:Int),Inc n b l→(∀ x ∈ l,x.v < t.v)→b < t.v→t.v < (n:Int)→t.c≠0→In t.c→Inc n b (l ++ [t])
 | [],b,_,_,h2,h3,h4,h5=>⟨⟨h2,h3,h4,h5⟩,trivial⟩
 | x :: l,b,h,h1,h2,h3,h4,h5=>⟨h.1,Ym t l x.v h.2 (fun y c=>h1 y (List.mem_cons_of_mem _ c)) (h1 x (List.mem_cons_self ..)) h3 h4 h5⟩
theorem Sw {n:Nat}(a:Nat→Rat)(h:∀ j,j < n→In (ceilQ (a j))):∀ k,k≤n→Inc n (-1) (cutTerms a k)
 | 0,_=>trivial
 | k+1,hk=>by
  rw[Oj];by_cases b:ceilQ (a k)=0
  ·rw[if_pos b,List.append_nil];exact Sw a h k (by omega)
  ·rw[if_neg b];exact Ym _ _ _ (Sw a h k (by omega)) (fun x c=>(Xg a k x c).2) (by simp only[];omega) (by simp only[];omega) b (h k (by omega))
theorem Yg {n:Nat}:∀ (l:List Int) (b:Int),-1≤b→b < (n:Int)→IncI b l→(∀ v ∈ l,v < (n:Int))→(l.length:Int)≤(n:Int) - 1 - b
 | [],b,h1,h2,_,_=>by simp;omega
 | v :: l,b,h1,h2,h,hn=>by
  have:=Yg l v (by have:=h.1;omega) (hn v (List.mem_cons_self ..)) h.2 (fun u c=>hn u (List.mem_cons_of_mem _ c));have:=h.1;rw[List.length_cons];omega
theorem Xe {n:Nat}:∀ (l:List Int) (b:Int),IncI b l→(∀ v ∈ l,v < (n:Int))→Inc n b (l.map fun v=>⟨v,1⟩)
 | [],_,_,_=>trivial
 | v :: l,b,h,hn=>⟨⟨h.1,hn v (List.mem_cons_self ..),(show(1:Int)≠0 by decide),(show In 1 by unfold In;decide)⟩,Xe l v h.2 fun u c=>hn u (List.mem_cons_of_mem _ c)⟩
theorem Q3:cutName.length≤80∧∀ b ∈ cutName,32≤b∧b≤126:=by decide
theorem Oi {p:Prg}{v:Int}(h:Kb p v):0≤v∧v < (p.vars.length:Int):=by
 obtain⟨x,b,c,_⟩:=h;have:=(List.getElem?_eq_some_iff.1 c).1;exact⟨b,by omega⟩
theorem J2O {p:Prg}{c:CutS}{r:RowS}(q:Jo p)(h:Kn p c r):J2 p.vars.length r:=by
 obtain⟨g,⟨n,m,rfl⟩|⟨n,_,rfl⟩⟩:=h
 ·exact⟨(show(0:Int)≤1∧(1:Int)≤2 by decide),(show(0:Int)≤0∧(0:Int)≤60 by decide),Q3.1,m.2.2,Q3.2,Sw _ m.2.1 _ (Nat.le_refl _)⟩
 ·rcases g with g|⟨_,_,_,_,k,j,f⟩
  ·omega
  ·have d:=fun v b=>(Oi (f v b)).2;have y:0 < p.vars.length:=by
    cases b:c.vars with
    | nil=>exact absurd b k
    | cons v l=>
     have:=Oi (f v (by rw[b];exact List.mem_cons_self ..));omega
   have s:=Yg c.vars (-1) (by decide) (by omega) j d;have u:=q.1;refine⟨(show(0:Int)≤0∧(0:Int)≤2 by decide),(show(0:Int)≤0∧(0:Int)≤60 by decide),Q3.1,?_,Q3.2,Xe _ _ j d⟩;have x:0 < c.vars.length:=List.length_pos_iff.2 k;exact⟨by show -1099511627776≤(c.vars.length:Int) - 1;omega,by show(c.vars.length:Int) - 1≤1099511627776;omega⟩
theorem J22 {p:Prg}{r:RowS}(c:Jo p)(d:J2 p.vars.length r)(f:p.rows.length < 4000):Jo (addRow p r):=by
 refine⟨c.1,by simp[addRow];omega,c.2.2.1,fun x b=>?_⟩;rcases List.mem_append.1 b with b|b
 ·exact c.2.2.2 x b
 ·obtain rfl:=List.mem_singleton.1 b;exact d
end Prf
end Go.Proofs.YtcjgimlcefhhmaaGreatDoor
namespace Go.Proofs.YtcjgimlcefhhmaaGreatDoor
open Go.RowKit
theorem J3k {P:Program}{ρ:Operand→Value}{o:Oper}{w:World}{c:Call}{x:Operand}{f:FuncId}{first b:Array Value}(h:o.op = .call c)(d:c.callee = .value x)
  (j:ρ x = .func (.func f) first b) (g:∀ args w,(callFunc f args).run P w = .ok (.enter f args) w):
  (execOp ρ o).run P w = .ok (.enter f ((first ++ c.args.map ρ) ++ b)) w:=by
 unfold execOp;simp only[h,resolve,d,j,Deferred.ofValue,invoke];simp[go_sem,g]
end Go.Proofs.YtcjgimlcefhhmaaGreatDoor
namespace Go.Proofs.YtcjgimlcefhhmaaGreatDoor.Inv
open Go.RowKit
section region
variable {P:Program}{ops:Array Oper}{md:Region.Mode}{Q:Exit→Act→World→Prop}{B:World→Prop}
def bOp (P:Program)(ops:Array Oper)(Q:Exit→Act→World→Prop)(B:World→Prop)(i:Nat)(K:Act→World→Prop)(a:Act)(w:World):Prop:=
 wpOp P ops Q i (fun a' w'=>B w'∧K a' w') a w
def wpAnyB (P:Program)(md:Region.Mode)(ops:Array Oper)(Q:Exit→Act→World→Prop)(B:World→Prop):Nat→Array Bool→Act→World→Prop
 | 0,listed,a,w=>Region.ready md ops listed=[]∧Q .normal a w
 | fuel+1,listed,a,w=>
  (Region.ready md ops listed=[]→Q .normal a w)∧
  ∀ i ∈ Region.ready md ops listed,bOp P ops Q B i (wpAnyB P md ops Q B fuel (listed.setIfInBounds i true)) a w
theorem Sd:∀ (fuel:Nat) (b:Array Bool) (a:Act) (w:World),wpAnyB P md ops Q B fuel b a w→wpAny P md ops Q fuel b a w
 | 0,_,_,_,h=>h
 | fuel+1,_,_,_,h=>⟨h.1,fun i d=>wpOp_mono (fun c w' f=>Sd fuel _ c w' f.2) (h.2 i d)⟩
def Kz (P:Program)(ops:Array Oper)(B:World→Prop)(o:Oper)(v:Value)(a:Act):Prop:=
 (Region.wanted o (yielded ops a.tmps)=true∧∀ w',B w'→(execOp a.eval o).run P w' = .ok (.value v) w')∨
 (Region.wanted o (yielded ops a.tmps)=false∧v=undef)
theorem Kz.of_same {o:Oper}{v:Value}{a b:Act}(f:Kz P ops B o v a)(c:execOp b.eval o=execOp a.eval o)
  (d:Region.wanted o (yielded ops b.tmps)=Region.wanted o (yielded ops a.tmps)):Kz P ops B o v b:=by
 unfold Kz at *;rw[c,d];exact f
theorem Kz.bOp {i:Nat}{o:Oper}{v:Value}{a:Act}{w:World}(d:ops[i]?=some o)(b:B w)(g:Kz P ops B o v a)
  {K:Act→World→Prop} (h:K (a.put o.dst v) w):bOp P ops Q B i K a w:=by
 unfold Proofs.YtcjgimlcefhhmaaGreatDoor.Inv.bOp wpOp;simp only[d];rcases g with⟨c,f⟩|⟨c,rfl⟩
 ·simp only[c,if_true,Oper.wp,f w b,Oper.upon];exact .inl ⟨b,h⟩
 ·simp only[c,Bool.false_eq_true,if_false];exact⟨b,h⟩
theorem J2b {j:Nat}{g l:Oper}{v:Value}(H:ops[j]?=some l)(G:g.apart ops l=true)
  (J:∀ s b,g.op≠.select s b) (F:∀ s b,l.op≠.select s b)
  (D:∀ c a d v w,Q (.panic c) (a.put d v) w→Q (.panic c) a w) {K:Act→World→Prop} {a:Act} {w:World}
  (k:Kz P ops B g v a) (h:bOp P ops Q B j K (a.put g.dst v) w):
  bOp P ops Q B j (fun A w'=>Kz P ops B g v A∧K (A.put g.dst v) w') a w:=by
 obtain⟨y,p,C⟩:=Oper.apart_spec G;have q:∀ (a:Act),Kz P ops B g v a→∀ u,Kz P ops B g v (a.put l.dst u):=fun a k u=>
  k.of_same (execOp_put g J a l.dst u C) (wanted_put g a l.dst u C)
 have L:∀ d,Kz P ops B g v a→Kz P ops B g v { a with defers:=d :: a.defers }:=fun d k=>k.of_same rfl rfl;unfold bOp wpOp at *;simp only[H] at *;rw[wanted_put l a g.dst v y] at h
 split
 ·rename_i z;simp only[z,if_true] at h;rcases h with h|⟨E,I⟩
  case inr=>exact .inr ⟨by unfold Oper.asks at *;rw[execOp_put l F a g.dst v y] at E;exact E,I⟩
  refine .inl ?_;unfold Oper.wp at *;rw[execOp_put l F a g.dst v y] at h;generalize (execOp a.eval l).run P w=r at *
  cases r with
  | ok n w'=>
   cases n<;>simp only[Oper.upon] at h ⊢
   case value u=>exact⟨h.1,q a k u,by rw[← Act.put_comm a v u p];exact h.2⟩
   case skip=>exact⟨h.1,q a k _,by rw[← Act.put_comm a v undef p];exact h.2⟩
   case defer d=>
    refine⟨h.1,q _ (L d k) _,?_⟩;rw[← Act.put_comm _ v undef p,← Act.put_defers];exact h.2
   case enter f args=>
    refine Calls.mono h fun e M m=>?_
    cases e with
    | returned u=>exact⟨m.1,q a k u,by rw[← Act.put_comm a v u p];exact m.2⟩
    | panicked c=>exact D _ _ _ _ _ m
    | outgrown=>exact m
   case row row args=>exact Rows.mono h fun u M m=>⟨m.1,q a k u,by rw[← Act.put_comm a v u p];exact m.2⟩
  | halt x w'=>
   cases x<;>simp only[Oper.upon] at h ⊢
   case panic u=>exact D _ _ _ _ _ h
 ·rename_i z;simp only[z] at h;exact⟨h.1,q a (k) _,by rw[← Act.put_comm a v undef p];exact h.2⟩
theorem J2a {i:Nat}{a:Act}{w:World}{K c:Act→World→Prop}(h:∀ a w,B w→K a w→c a w)
  (d:bOp P ops Q B i K a w):bOp P ops Q B i c a w:=wpOp_mono (fun a w b=>⟨b.1,h a w b.1 b.2⟩) d
theorem Pu {i:Nat}{n:Oper}{v:Value}(x:ops[i]?=some n)(F:∀ (j:Nat) (o:Oper) p b,ops[j]?=some o→o.op≠.select p b)
  (M:∀ c a d v w,Q (.panic c) (a.put d v) w→Q (.panic c) a w):
  ∀ (fuel:Nat) (f:Array Bool) (a:Act) (w:World),B w→J7 md ops f→
   (∀ j q,ops[j]?=some q→j≠i→f.getD j true=false→¬ Jz md ops i j→n.apart ops q=true)→
   i ∈ Region.ready md ops f→Kz P ops B n v a→
   wpAnyB P md ops Q B fuel (f.setIfInBounds i true) (a.put n.dst v) w→wpAnyB P md ops Q B (fuel+1) f a w:=by
 intro fuel
 induction fuel with
 | zero=>
  intro f a w u _ _ l r H;refine⟨fun h=>(by rw[h] at l;cases l),fun j m=>?_⟩;by_cases g:j=i
  ·subst g;exact r.bOp x u H
  ·have:=ready_mono m g;rw[H.1] at this
   cases this
 | succ fuel ih=>
  intro f a w u A C l r H;refine⟨fun h=>(by rw[h] at l;cases l),fun j m=>?_⟩;by_cases g:j=i
  ·subst g;exact r.bOp x u H
  ·have J:=H.2 j (ready_mono m g);obtain⟨E,q,y,V⟩:=mem_ready.1 m;have N:=C j q y g E (Jz.not_ready A l m);have K:=J2b y N (fun p b=>F i n p b x) (fun p b=>F j q p b y) M r J;have O:∀ k s,ops[k]?=some s→k≠i→(f.setIfInBounds j true).getD k true=false→
     ¬ Jz md ops i k→n.apart ops s=true:=fun k s R S G T=>by
    refine C k s R S ?_ T;by_cases D:j=k
    ·subst D;exact E
    ·rw[getD_set_ne true D] at G;exact G
   refine J2a (fun I w' L z=>ih (f.setIfInBounds j true) I w' L (A.set m) O (ready_mono l (Ne.symm g)) z.1 ?_) K;rw[Array.setIfInBounds_comm _ _ g];exact z.2
def wpL (P:Program)(ops:Array Oper)(Q:Exit→Act→World→Prop)(B:World→Prop):Tr→Act→World→Prop
 | .stop,a,w=>Q .normal a w
 | .read i t,a,w=>∃ o,ops[i]?=some o∧
   if Region.wanted o (yielded ops a.tmps)=true then ∃ v,(∀ w',B w'→(execOp a.eval o).run P w' = .ok (.value v) w')∧wpL P ops Q B t (a.put o.dst v) w
   else wpL P ops Q B t (a.put o.dst undef) w
 | .one i t,a,w=>∃ o,ops[i]?=some o∧
   if Region.wanted o (yielded ops a.tmps)=true then Oper.wp P o a w (fun a' w'=>B w'∧wpL P ops Q B t a' w') Q
   else wpL P ops Q B t (a.put o.dst undef) w
 | .two i t j u,a,w=>
   (∃ o,ops[i]?=some o∧if Region.wanted o (yielded ops a.tmps)=true then Oper.wp P o a w (fun a' w'=>B w'∧wpL P ops Q B t a' w') Q else wpL P ops Q B t (a.put o.dst undef) w)∧
   (∃ o,ops[j]?=some o∧if Region.wanted o (yielded ops a.tmps)=true then Oper.wp P o a w (fun a' w'=>B w'∧wpL P ops Q B u a' w') Q else wpL P ops Q B u (a.put o.dst undef) w)
def freeL (ops:Array Oper)(oi:Oper)(skip:Nat):List Oper→Nat→Bool
 | [],_=>true
 | o :: l,j=>(tb skip j || oi.apart ops o) && freeL ops oi skip l (j+1)
theorem Ya {c:Oper}{skip:Nat}:∀ (l:List Oper) (k:Nat),(∀ j,l[j]?=ops[k+j]?)→freeL ops c skip l k=true→
  ∀ j o,k≤j→ops[j]?=some o→skip.testBit j=false→c.apart ops o=true
 | [],k,hl,_,j,o,hk,hj,_=>by
  have:=hl (j - k);rw[show k+(j - k)=j by omega,hj] at this
  cases this
 | o' :: l,k,hl,h,j,o,hk,hj,hs=>by
  unfold freeL at h;rw[Bool.and_eq_true] at h;by_cases f:j=k
  ·subst f;have d:ops[j]?=some o':=by simpa using(hl 0).symm
   rw[d] at hj
   cases hj
   have b:=h.1;rw[Np,hs,Bool.false_or] at b;exact b
  ·exact Ya l (k+1) (fun j=>by have:=hl (j+1);simpa[Nat.add_assoc,Nat.add_comm 1 j] using this) h.2 j o (by omega) hj hs
def looseB (md:Region.Mode)(ops:Array Oper)(os:List Oper):Tr→Nat→Bool
 | .stop,L=>onlyM md L L os 0
 | .read i t,L=>match os[i]? with
  | none=>false
  | some oi=>readyM md os L i && (freeL ops oi (Nat.lor (Nat.lor L (Nat.pow 2 i)) (waitsM md (Nat.pow 2 i) os 0 0)) os 0 && looseB md ops os t (Nat.lor L (Nat.pow 2 i)))
 | .one i t,L=>readyM md os L i && (onlyM md L (Nat.lor L (Nat.pow 2 i)) os 0 && looseB md ops os t (Nat.lor L (Nat.pow 2 i)))
 | .two i t j u,L=>(readyM md os L i && readyM md os L j) && ((Nat.beq t.len u.len && onlyM md L (Nat.lor (Nat.lor L (Nat.pow 2 i)) (Nat.pow 2 j)) os 0) &&
   (looseB md ops os t (Nat.lor L (Nat.pow 2 i)) && looseB md ops os u (Nat.lor L (Nat.pow 2 j))))
theorem J6Q (hs:Region.noSelect ops=true)(S:∀ c a d v w,Q (.panic c) (a.put d v) w→Q (.panic c) a w):
  ∀ (t:Tr) (L:Nat) (b:Array Bool) (a:Act) (w:World),B w→b.size=ops.size→(∀ j,b.getD j false=L.testBit j)→J7 md ops b→looseB md ops ops.toList t L=true→wpL P ops Q B t a w→wpAnyB P md ops Q B t.len b a w:=by
 have key:∀ (i:Nat) (t:Tr) (L:Nat) (b:Array Bool) (a:Act) (w:World),B w→b.size=ops.size→(∀ j,b.getD j false=L.testBit j)→J7 md ops b→i ∈ Region.ready md ops b→
   (∀ a w,B w→(b.setIfInBounds i true).size=ops.size→(∀ j,(b.setIfInBounds i true).getD j false=(Nat.lor L (Nat.pow 2 i)).testBit j)→J7 md ops (b.setIfInBounds i true)→wpL P ops Q B t a w→wpAnyB P md ops Q B t.len (b.setIfInBounds i true) a w)→
   (∃ o,ops[i]?=some o∧if Region.wanted o (yielded ops a.tmps)=true then Oper.wp P o a w (fun N w'=>B w'∧wpL P ops Q B t N w') Q else wpL P ops Q B t (a.put o.dst undef) w)→
   bOp P ops Q B i (wpAnyB P md ops Q B t.len (b.setIfInBounds i true)) a w:=by
  intro i t L b a w f g l p H C h;obtain⟨o,r,h⟩:=h;have R:i < b.size:=by rw[g];exact(Array.getElem?_eq_some_iff.1 r).1
  have I:(b.setIfInBounds i true).size=ops.size:=by simpa using g
  have F:=Qo R l;have T:J7 md ops (b.setIfInBounds i true):=p.set H;unfold bOp wpOp;simp only[r];by_cases y:Region.wanted o (yielded ops a.tmps)=true
  ·rw[if_pos y] at h;rw[if_pos y];exact .inl (Oper.wp_mono (fun N w' z=>⟨z.1,C N w' z.1 I F T z.2⟩) h)
  ·rw[if_neg y] at h;rw[if_neg y];exact⟨f,C _ _ f I F T h⟩
 intro t
 induction t with
 | stop=>
  intro L b a w f g l _ q h;refine⟨?_,h⟩;rw[List.eq_nil_iff_forall_not_mem];intro j x;obtain⟨_,o,r,_⟩:=mem_ready.1 x;have m:=(Mq g l r).1 x;have n:=M7 ops.toList 0 (by simp) q j o (Nat.zero_le _) r m.1;rw[m.2] at n
  cases n
 | read i t C=>
  intro L b a w f g l p q h;obtain⟨o,r,h⟩:=h;have R:i < b.size:=by rw[g];exact(Array.getElem?_eq_some_iff.1 r).1
  have a8:ops.toList[i]?=some o:=by simpa using r
  simp only[looseB,a8,Bool.and_eq_true] at q;obtain⟨H,G,J⟩:=q;have A:=Us g l H;have I:(b.setIfInBounds i true).size=ops.size:=by simpa using g
  have F:=Qo R l;have V:∀ j D,ops[j]?=some D→j≠i→b.getD j true=false→¬ Jz md ops i j→o.apart ops D=true:=fun j D x a6 b0 a7=>by
   refine Ya ops.toList 0 (by simp) G j D (Nat.zero_le _) x ?_;have a3:j < b.size:=by rw[g];exact(Array.getElem?_eq_some_iff.1 x).1
   have e:b.getD j true=L.testBit j:=by rw[← l j];simp[a3]
   show((L ||| 2 ^ i) ||| waitsM md (2 ^ i) ops.toList 0 0).testBit j=false;rw[Nat.testBit_or,Nat.testBit_or,← e,b0,Nat.testBit_two_pow]
   cases hwt:(waitsM md (2 ^ i) ops.toList 0 0).testBit j
   ·simp[Ne.symm a6]
   ·exact absurd (N8 (md:=md) (ops:=ops) (i:=i) ops.toList 0 0 (by simp) (by simp) j hwt) a7
  by_cases y:Region.wanted o (yielded ops a.tmps)=true
  ·rw[if_pos y] at h;obtain⟨v,hv,h⟩:=h;exact Pu r (Region.noSelect_spec hs) S t.len b a w f p V A (.inl ⟨y,hv⟩) (C _ _ _ _ f I F (p.set A) J h)
  ·rw[if_neg y] at h;exact Pu r (Region.noSelect_spec hs) S t.len b a w f p V A (.inr ⟨by simpa using y,rfl⟩) (C _ _ _ _ f I F (p.set A) J h)
 | one i t C=>
  intro L b a w f g l p q h;simp only[looseB,Bool.and_eq_true] at q;obtain⟨H,G,J⟩:=q;have A:=Us g l H;refine⟨fun O=>(by rw[O] at A;cases A),fun j x=>?_⟩;obtain⟨_,D,X,_⟩:=mem_ready.1 x;have m:=(Mq g l X).1 x;have K:j=i:=by
   by_cases K:j=i
   ·exact K
   ·have s:(Nat.lor L (Nat.pow 2 i)).testBit j=false:=by
     show(L ||| 2 ^ i).testBit j=false;rw[Nat.testBit_or,m.1,Nat.testBit_two_pow];simp[Ne.symm K]
    have n:=M7 ops.toList 0 (by simp) G j D (Nat.zero_le _) X s;rw[m.2] at n
    cases n
  subst K;exact key j t L b a w f g l p x (fun a w f m n s E=>C _ _ _ _ f m n s J E) h
 | two i t j u iht ihu=>
  intro L b a w f g l p q h;simp only[looseB,Bool.and_eq_true] at q;obtain⟨⟨a9,b1⟩,⟨a4,G⟩,a1,a2⟩:=q;have a0:=Us g l a9;have a5:t.len=u.len:=Nat.eq_of_beq_eq_true a4;refine⟨fun O=>(by rw[O] at a0;cases a0),fun k z=>?_⟩;obtain⟨_,ok,Y,_⟩:=mem_ready.1 z;have m:=(Mq g l Y).1 z;have M:k=i∨k=j:=by
   by_cases M:k=i
   ·exact .inl M
   ·by_cases W:k=j
    ·exact .inr W
    ·have s:(Nat.lor (Nat.lor L (Nat.pow 2 i)) (Nat.pow 2 j)).testBit k=false:=by
      show((L ||| 2 ^ i) ||| 2 ^ j).testBit k=false;rw[Nat.testBit_or,Nat.testBit_or,m.1,Nat.testBit_two_pow,Nat.testBit_two_pow];simp[Ne.symm M,Ne.symm W]
     have n:=M7 ops.toList 0 (by simp) G k ok (Nat.zero_le _) Y s;rw[m.2] at n
     cases n
  rcases M with rfl|rfl
  ·exact key k t L b a w f g l p z (fun a w f m n s E=>iht _ _ _ _ f m n s a1 E) h.1
  ·show bOp P ops Q B k (wpAnyB P md ops Q B t.len (b.setIfInBounds k true)) a w;rw[a5];exact key k u L b a w f g l p z (fun a w f m n s E=>ihu _ _ _ _ f m n s a2 E) h.2
theorem Mw {id:Nat}{a:Act}{w:World}(B:World→Prop)(t:Tr)(f:B w.drew)(m:P.follows .mixedOrders=true)(p:Region.noSelect ops=true)
  (n:t.len=ops.size) (g:looseB .any ops ops.toList t 0=true) (k:∀ c a d v w,Q (.panic c) (a.put d v) w→Q (.panic c) a w)
  (h:wpL P ops Q B t a w.drew):(Code.region id ops true).wp P Q a w:=by
 refine wp_region_any m (Sd _ _ _ _ (B:=B) ?_);have:=J6Q (md:=.any) p k t 0 (Array.replicate ops.size false) a w.drew f (by simp) (fun j=>by
  rw[Nat.zero_testBit];by_cases l:j < ops.size<;>simp[Array.getElem?_replicate,l]) (fun j o _ b=>by simp[Array.getElem?_replicate] at b;split at b<;>simp at b) g h
 rw[n] at this;exact this
end region
section steps
variable {P:Program}{ops:Array Oper}{Q:Exit→Act→World→Prop}{i:Nat}{t:Tr}{a:Act}{w:World}{B:World→Prop}{o:Oper}
theorem Mh (h:Q .normal a w):wpL P ops Q B .stop a w:=h
theorem Kv (b:ops[i]?=some o)(d:Region.wanted o (yielded ops a.tmps)=true){v:Value}(c:∀ w',B w'→(execOp a.eval o).run P w' = .ok (.value v) w')
  (h:∀ K:Act→World→Prop,(∀ a w,wpL P ops Q B t a w→K a w)→K (a.put o.dst v) w):wpL P ops Q B (.read i t) a w:=
 ⟨o,b,by rw[if_pos d];exact⟨v,c,h _ (fun _ _ h=>h)⟩⟩
theorem Mg (c:ops[i]?=some o)(d:Region.wanted o (yielded ops a.tmps)=true)
  (h:∀ K:Act→World→Prop,(∀ a w,wpL P ops Q B t a w→K a w)→Oper.wp P o a w (fun b w'=>B w'∧K b w') Q):wpL P ops Q B (.one i t) a w:=
 ⟨o,c,by rw[if_pos d];exact h _ (fun _ _ h=>h)⟩
theorem J1H {c:Call}{x:Operand}{f:FuncId}{first b args:Array Value}
  (n:ops[i]?=some o) (q:Region.wanted o (yielded ops a.tmps)=true) (p:o.op = .call c) (k:c.callee = .value x) (r:a.eval x = .func (.func f) first b)
  (l:∀ args w,(callFunc f args).run P w = .ok (.enter f args) w) (g:(first ++ c.args.map a.eval) ++ b=args)
  (h:∀ K:Act→World→Prop,(∀ a w,wpL P ops Q B t a w→K a w)→Calls P f args w fun e w'=>∃ v,e = .returned v∧B w'∧K (a.put o.dst v) w'):wpL P ops Q B (.one i t) a w:=by
 refine Mg n q fun K d=>?_;unfold Oper.wp;rw[J3k p k r l,g];simp only[Oper.upon];refine(h K d).mono ?_;rintro e w' ⟨v,rfl,j,m⟩;exact⟨j,m⟩
theorem J1G {c:Call}{x:Operand}{f:FuncId}{first g args:Array Value}{b:Func}
  (q:ops[i]?=some o) (s:Region.wanted o (yielded ops a.tmps)=true) (r:o.op = .call c) (l:c.callee = .value x) (u:a.eval x = .func (.func f) first g)
  (m : P.funcs[f]? = some b) (p : (b.name == "runtime.NumGoroutine") = false) (d : b.body.isNone = false) (k : (first ++ c.args.map a.eval) ++ g = args)
  (h:∀ K:Act→World→Prop,(∀ a w,wpL P ops Q B t a w→K a w)→Calls P f args w fun e w'=>∃ v,e = .returned v∧B w'∧K (a.put o.dst v) w'):wpL P ops Q B (.one i t) a w:=by
 refine Mg q s fun K j=>?_;unfold Oper.wp;rw[Rd r l u m p d,k];simp only[Oper.upon];refine(h K j).mono ?_;rintro e w' ⟨v,rfl,d,n⟩;exact⟨d,n⟩
end steps
end Go.Proofs.YtcjgimlcefhhmaaGreatDoor.Inv
namespace Go.Proofs.YtcjgimlcefhhmaaGreatDoor.LateL
open Go.RowKit
section
variable {P:Program}{ops:Array Oper}{md:Region.Mode}{Q:Exit→Act→World→Prop}{B:World→Prop}{zc:TypeId→Array Value}
def Kz (P:Program)(ops:Array Oper)(B:World→Prop)(o:Oper)(v:Value)(a:Act):Prop:=
 (Region.wanted o (yielded ops a.tmps)=true∧∀ w',B w'→(execOp a.eval o).run P w' = .ok (.value v) w')∨
 (Region.wanted o (yielded ops a.tmps)=false∧v=undef)
theorem Kz.of_same {o:Oper}{v:Value}{a b:Act}(f:Kz P ops B o v a)(c:execOp b.eval o=execOp a.eval o)
  (d:Region.wanted o (yielded ops b.tmps)=Region.wanted o (yielded ops a.tmps)):Kz P ops B o v b:=by
 unfold Kz at *;rw[c,d];exact f
def freeJ (md:Region.Mode)(ops:Array Oper)(listed:Array Bool)(i:Nat):Bool:=
 match ops[i]? with
 | none=>false
 | some oi=>
  (List.range ops.size).all fun j=>j == i || listed.getD j true || match ops[j]? with
   | some oj=>oi.apart ops oj || (waitsGo md i ops.toList #[]).getD j false
   | none=>true
theorem Re {i:Nat}{f:Oper}{d:Array Bool}(k:ops[i]?=some f)(h:freeJ md ops d i=true)(j:Nat)(g:Oper)
  (c:ops[j]?=some g) (l:j≠i) (n:d.getD j true=false) (m:¬ Jz md ops i j):f.apart ops g=true:=by
 simp only[freeJ,k,List.all_eq_true,List.mem_range] at h;have b:=h j (Array.getElem?_eq_some_iff.1 c).1;simp only[c,Bool.or_eq_true,beq_iff_eq,l,false_or,n,Bool.false_eq_true] at b;rcases b with b|b
 ·exact b
 ·exact absurd (Pt (md:=md) (ops:=ops) (i:=i) ops.toList #[] (by simp) (by simp) j b) m
variable {rest:List (Nat × Nat)}{U:Nat→Prop}{a:Act}{w:World}{o:Oper}{i:Nat}
end
end Go.Proofs.YtcjgimlcefhhmaaGreatDoor.LateL
namespace Go.Proofs.YtcjgimlcefhhmaaGreatDoor.LateN
open Go.RowKit
open Go.Proofs.YtcjgimlcefhhmaaGreatDoor.LateL (freeJ Re)
open Go.Proofs.YtcjgimlcefhhmaaGreatDoor.Inv (bOp wpAnyB Sd Pu)
structure NewS where
 T:TypeId
 Z:Array Value
 v:Nat→Value
section
variable {P:Program}{ops:Array Oper}{md:Region.Mode}{Q:Exit→Act→World→Prop}{B:World→Prop}{nw:Nat→NewS}
def earlyN (ops:Array Oper)(i:Nat)(oi:Oper):List (Nat × Nat)→Bool
 | []=>false
 | (j,k) :: rest=>if j=i∧k=2 then true else (match ops[j]? with|some oj=>oi.apart ops oj|none=>false) && earlyN ops i oi rest
theorem Xt {i:Nat}{c:Oper}:∀ (l:List (Nat × Nat)),earlyN ops i c l=true→(eraseF i l).length+1=l.length
 | [],h=>by simp[earlyN] at h
 | (j,k) :: rest,h=>by
  unfold earlyN at h;unfold eraseF
  split
  ·rfl
  ·rename_i b;rw[if_neg b] at h;simp only[Bool.and_eq_true] at h;simp[Xt rest h.2]
theorem Tc {i:Nat}{c:Oper}:∀ (l:List (Nat × Nat)),earlyN ops i c l=true→hasAlloc l=true
 | [],h=>by simp[earlyN] at h
 | (j,k) :: rest,h=>by
  unfold earlyN at h;by_cases b:j=i∧k=2
  ·obtain⟨rfl,rfl⟩:=b;simp[hasAlloc]
  ·rw[if_neg b] at h;simp only[Bool.and_eq_true] at h;simp[hasAlloc,Tc rest h.2]
def M2 (P:Program)(ops:Array Oper)(nw:Nat→NewS)(i:Nat)(a:Act):Prop:=∃ o,ops[i]?=some o∧o.guard=none∧∀ w',(execOp a.eval o).run P w' = .ok (.value ((nw i).v w'.heap.size)) (w'.alloc (.cells (nw i).Z (nw i).T))
def keepsN (ops:Array Oper)(oj:Oper)(l:List (Nat × Nat)):Bool:=l.all fun x=>x.2 != 2 || (match ops[x.1]? with|some oi=>oi.apart ops oj|none=>false)
theorem Y0 {c:Oper}{l:List (Nat × Nat)}(h:keepsN ops c l=true){i:Nat}{b:Oper}(d:ops[i]?=some b)(f:(i,2) ∈ l):b.apart ops c=true:=by
 unfold keepsN at h;have:=List.all_eq_true.1 h _ f;simpa[d] using this
def okN (md:Region.Mode)(ops:Array Oper):Nat→List (Nat × Nat)→Array Bool→Bool
 | 0,_,_=>false
 | _+1,[],listed=>(Region.ready md ops listed).isEmpty
 | f+1,(i,k) :: rest,listed=>(Region.ready md ops listed).contains i && (match ops[i]? with|some oi=>keepsN ops oi rest|none=>false) &&
   if k=1 then freeJ md ops listed i && okN md ops f rest (listed.setIfInBounds i true)
   else okN md ops f rest (listed.setIfInBounds i true) &&
    (Region.ready md ops listed).all fun j=>j == i || ((match ops[j]? with|some oj=>earlyN ops j oj ((i,k) :: rest) && keepsN ops oj (eraseF j ((i,k) :: rest))|none=>false) && okN md ops f (eraseF j ((i,k) :: rest)) (listed.setIfInBounds j true))
def wpN (P:Program)(ops:Array Oper)(Q:Exit→Act→World→Prop)(B:World→Prop)(nw:Nat→NewS):List (Nat × Nat)→(Nat→Prop)→Act→World→Prop
 | [],_,a,w=>Q .normal a w
 | (i,k) :: rest,U,a,w=>∃ o,ops[i]?=some o∧
   if k=2 then ∀ w1 b,Gr w w1→Jy (nw i).Z (nw i).T b w1→¬ U b→wpN P ops Q B nw rest (fun x=>U x∨x=b) (a.put o.dst ((nw i).v b)) w1
   else if Region.wanted o (yielded ops a.tmps)=true then
    (if k=1 then ∃ v,(∀ w',B w'→(execOp a.eval o).run P w' = .ok (.value v) w')∧wpN P ops Q B nw rest U (a.put o.dst v) w
     else ∀ w1,Gr w w1→Oper.wp P o a w1 (fun a' w'=>(hasAlloc rest=true→Gr w1 w')∧B w'∧wpN P ops Q B nw rest (fun x=>U x∨(w1.heap.size≤x∧x < w'.heap.size)) a' w') Q)
   else wpN P ops Q B nw rest U (a.put o.dst undef) w
theorem Pw:∀ (l:List (Nat × Nat)) (U d:Nat→Prop) (a:Act) (w:World),(∀ x,U x→d x)→wpN P ops Q B nw l U a w→wpN P ops Q B nw l d a w
 | [],_,_,_,_,_,h=>h
 | (i,k) :: rest,U,d,a,w,hU,⟨o,ho,h⟩=>by
  refine⟨o,ho,?_⟩;by_cases c:k=2
  ·rw[if_pos c] at h ⊢;exact fun m b g f n=>Pw rest _ _ _ _ (fun x j=>j.imp (hU x) id) (h m b g f (fun r=>n (hU b r)))
  ·rw[if_neg c] at h ⊢;by_cases q:Region.wanted o (yielded ops a.tmps)=true
   ·rw[if_pos q] at h ⊢;by_cases p:k=1
    ·rw[if_pos p] at h ⊢;obtain⟨v,s,h⟩:=h;exact⟨v,s,Pw rest _ _ _ _ hU h⟩
    ·rw[if_neg p] at h ⊢;exact fun m g=>Oper.wp_mono (fun u w' c=>⟨c.1,c.2.1,Pw rest _ _ _ _ (fun x j=>j.imp (hU x) id) c.2.2⟩) (h m g)
   ·rw[if_neg q] at h ⊢;exact Pw rest _ _ _ _ hU h
theorem Vp:∀ (l:List (Nat × Nat)) (U:Nat→Prop) (a:Act) (w w':World),hasAlloc l=true→Gr w w'→wpN P ops Q B nw l U a w→wpN P ops Q B nw l U a w'
 | [],_,_,_,_,h,_,_=>by simp[hasAlloc] at h
 | (i,k) :: rest,U,a,w,w',hl,g,⟨o,ho,h⟩=>by
  refine⟨o,ho,?_⟩;by_cases c:k=2
  ·rw[if_pos c] at h ⊢;exact fun d b g1 f n=>h d b (g.trans g1) f n
  ·have m:hasAlloc rest=true:=by simpa[hasAlloc,c] using hl
   rw[if_neg c] at h ⊢;by_cases p:Region.wanted o (yielded ops a.tmps)=true
   ·rw[if_pos p] at h ⊢;by_cases j:k=1
    ·rw[if_pos j] at h ⊢;obtain⟨v,q,h⟩:=h;exact⟨v,q,Vp rest U _ _ _ m g h⟩
    ·rw[if_neg j] at h ⊢;exact fun d g1=>h d (g.trans g1)
   ·rw[if_neg p] at h ⊢;exact Vp rest U _ _ _ m g h
theorem M2.keep {i:Nat}{f:Oper}{a:Act}(p:∀ (j:Nat) (o:Oper) c b,ops[j]?=some o→o.op≠.select c b)(h:M2 P ops nw i a)(l:∀ g,ops[i]?=some g→g.apart ops f=true)(u:Value):M2 P ops nw i (a.put f.dst u):=by
 obtain⟨o,d,m,n⟩:=h;obtain⟨q,r,k⟩:=Oper.apart_spec (l o d);exact⟨o,d,m,fun w'=>by rw[execOp_put o (fun c b=>p i o c b d) a f.dst u k];exact n w'⟩
theorem J6X {k:Oper}{Y:Act→Prop}{K:Act→World→Prop}{a:Act}{w:World}(b:∀ a u,Y a→Y (a.put k.dst u))(m:∀ a d,Y a→Y { a with defers:=d :: a.defers })(g:Y a)(h:Oper.wp P k a w K Q):Oper.wp P k a w (fun l w'=>Y l∧K l w') Q:=by
 unfold Oper.wp at *;generalize (execOp a.eval k).run P w=r at *
 cases r with
 | ok n w'=>
  cases n<;>simp only[Oper.upon] at h ⊢
  case value u=>exact⟨b _ _ g,h⟩
  case skip=>exact⟨b _ _ g,h⟩
  case defer d=>exact⟨b _ _ (m _ _ g),h⟩
  case enter f args=>
   refine Calls.mono h fun e p j=>?_
   cases e with
   | returned u=>exact⟨b _ _ g,j⟩
   | panicked c=>exact j
   | outgrown=>exact j
  case row row args=>exact Rows.mono h fun u p j=>⟨b _ _ g,j⟩
 | halt x w'=>
  cases x<;>simp only[Oper.upon] at h ⊢
  case panic u=>exact h
theorem J6Z {m g:Oper}{v:Value}(C:m.apart ops g=true)(D:∀ z b,g.op≠.select z b)
  (s:∀ c a d v w,Q (.panic c) a w→Q (.panic c) (a.put d v) w) {K p:Act→World→Prop} {a:Act} {w:World}
  (k:∀ q w',K q w'→p (q.put m.dst v) w')
  (h:Oper.wp P g a w K Q):Oper.wp P g (a.put m.dst v) w p Q:=by
 obtain⟨A,j,E⟩:=Oper.apart_spec C;unfold Oper.wp at *;rw[execOp_put g D a m.dst v A];generalize (execOp a.eval g).run P w=r at *
 cases r with
 | ok n w'=>
  cases n<;>simp only[Oper.upon] at h ⊢
  case value u=>rw[Act.put_comm a v u j];exact k _ _ h
  case skip=>rw[Act.put_comm a v undef j];exact k _ _ h
  case defer d=>
   rw[Act.put_defers,Act.put_comm _ v undef j];exact k _ _ h
  case enter f args=>
   refine Calls.mono h fun e y l=>?_
   cases e with
   | returned u=>exact(show p ((a.put m.dst v).put g.dst u) y from by rw[Act.put_comm a v u j];exact k _ _ l)
   | panicked c=>exact s _ _ _ _ _ l
   | outgrown=>exact l
  case row row args=>exact Rows.mono h fun u y l=>by rw[Act.put_comm a v u j];exact k _ _ l
 | halt x w'=>
  cases x<;>simp only[Oper.upon] at h ⊢
  case panic u=>exact s _ _ _ _ _ h
theorem Qt {i:Nat}{s:Oper}{b:Nat}(r:ops[i]?=some s)(n:∀ (j:Nat) (o:Oper) p b,ops[j]?=some o→o.op≠.select p b)
  (q:∀ c a d v w,Q (.panic c) a w→Q (.panic c) (a.put d v) w):
  ∀ (l:List (Nat × Nat)) (U:Nat→Prop) (a:Act) (w:World),earlyN ops i s l=true→Jy (nw i).Z (nw i).T b w→¬ U b→wpN P ops Q B nw l U a w→wpN P ops Q B nw (eraseF i l) (fun x=>U x∨x=b) (a.put s.dst ((nw i).v b)) w
 | [],_,_,_,h,_,_,_=>by simp[earlyN] at h
 | (j,k) :: rest,U,a,w,m,hf,hU,⟨o,ho,h⟩=>by
  unfold earlyN at m;unfold eraseF;by_cases G:j=i∧k=2
  ·obtain⟨rfl,rfl⟩:=G;rw[if_pos ⟨rfl,rfl⟩];rw[r] at ho
   cases ho
   rw[if_pos rfl] at h;exact h w b (Gr.refl w) hf hU
  ·rw[if_neg G] at m ⊢;simp only[ho,Bool.and_eq_true] at m;obtain⟨F,m⟩:=m;obtain⟨E,A,S⟩:=Oper.apart_spec F;refine⟨o,ho,?_⟩;by_cases y:k=2
   ·rw[if_pos y] at h ⊢;intro z C g1 K J;have:=Qt r n q rest _ _ _ m (hf.grow g1) (fun u=>u.elim hU (fun e=>J (.inr e.symm))) (h z C g1 K (fun u=>J (.inl u)));rw[Act.put_comm a ((nw i).v b) ((nw j).v C) A];exact Pw _ _ _ _ _ (fun x f=>by rcases f with(f|f)|f;exact .inl (.inl f);exact .inr f;exact .inl (.inr f)) this
   ·rw[if_neg y] at h ⊢;rw[wanted_put o a s.dst ((nw i).v b) E];by_cases I:Region.wanted o (yielded ops a.tmps)=true
    ·rw[if_pos I] at h ⊢;by_cases H:k=1
     ·rw[if_pos H] at h ⊢;obtain⟨v,L,h⟩:=h;refine⟨v,fun w' g=>by rw[execOp_put o (fun p b=>n j o p b ho) a s.dst _ E];exact L w' g,?_⟩;rw[Act.put_comm a ((nw i).v b) v A];exact Qt r n q rest _ _ _ m hf hU h
     ·rw[if_neg H] at h ⊢;intro z g1;refine J6Z F (fun p b=>n j o p b ho) q (fun R w' y=>?_) (h z g1);obtain⟨M,N,O⟩:=y;have D:=M (Tc rest m);exact⟨fun _=>D,N,Pw _ _ _ _ _ (fun x f=>by rcases f with(f|f)|f;exact .inl (.inl f);exact .inr f;exact .inl (.inr f)) (Qt r n q rest _ _ _ m ((hf.grow g1).grow D) (fun f=>f.elim hU (fun f=>by have u:b < z.heap.size:=Nat.lt_of_lt_of_le hf.lt g1.size;omega)) O)⟩
    ·rw[if_neg I] at h ⊢;rw[Act.put_comm a ((nw i).v b) undef A];exact Qt r n q rest _ _ _ m hf hU h
theorem Xu {i:Nat}{c:Oper}:∀ (l:List (Nat × Nat)),earlyN ops i c l=true→(i,2) ∈ l
 | [],h=>by simp[earlyN] at h
 | (j,k) :: rest,h=>by
  unfold earlyN at h;by_cases b:j=i∧k=2
  ·obtain⟨rfl,rfl⟩:=b;exact List.mem_cons_self
  ·rw[if_neg b] at h;simp only[Bool.and_eq_true] at h;exact List.mem_cons_of_mem _ (Xu rest h.2)
theorem J6R (M:∀ w w',B w→Gr w w'→B w')(L:Region.noSelect ops=true)(W:∀ c a d v w,Q (.panic c) (a.put d v) w→Q (.panic c) a w)(a2:∀ c a d v w,Q (.panic c) a w→Q (.panic c) (a.put d v) w):
  ∀ (n:Nat) (l:List (Nat × Nat)),l.length=n→∀ (f:Nat) (z:Array Bool) (U:Nat→Prop) (a:Act) (w:World),B w→J7 md ops z→okN md ops f l z=true→
   (∀ i,(i,2) ∈ l→M2 P ops nw i a)→(hasAlloc l=true→∀ b,U b→b < w.heap.size)→wpN P ops Q B nw l U a w→wpAnyB P md ops Q B n z a w:=by
 intro n
 induction n with
 | zero=>
  intro l E f z U a w p q g A x h;have:l=[]:=List.eq_nil_of_length_eq_zero E;subst this
  cases f with
  | zero=>simp[okN] at g
  | succ f=>exact⟨by simpa[okN] using g,h⟩
 | succ n ih=>
  intro l E f z U a w p q g A x h
  match l,E with
  | (i,k) :: rest,E=>
  have I:rest.length=n:=by simpa using E
  cases f with
  | zero=>simp[okN] at g
  | succ f=>
  have h0:=h;obtain⟨o,D,h⟩:=h;unfold okN at g;simp only[Bool.and_eq_true,D] at g;obtain⟨⟨hr,a4⟩,g⟩:=g;have r:i ∈ Region.ready md ops z:=by simpa using hr
  have K:∀ a u,(∀ i,(i,2) ∈ rest→M2 P ops nw i a)→∀ i,(i,2) ∈ rest→M2 P ops nw i (a.put o.dst u):=fun a u A V G=>
   (A V G).keep (Region.noSelect_spec L) (fun oi S=>Y0 a4 S G) u
  have F:∀ i,(i,2) ∈ rest→M2 P ops nw i a:=fun i hi=>A i (List.mem_cons_of_mem _ hi);by_cases R:k=1
  ·subst R;have X:hasAlloc rest=true→∀ b,U b→b < w.heap.size:=fun C=>x (by simp[hasAlloc,C]);rw[if_pos rfl,Bool.and_eq_true] at g;rw[if_neg (by omega)] at h;by_cases s:Region.wanted o (yielded ops a.tmps)=true
   ·rw[if_pos s,if_pos rfl] at h;obtain⟨v,hv,h⟩:=h;exact Pu D (Region.noSelect_spec L) W n z a w p q (Re D g.1) r (.inl ⟨s,hv⟩) (ih rest I f _ U _ w p (q.set r) g.2 (K _ _ F) X h)
   ·rw[if_neg s] at h;exact Pu D (Region.noSelect_spec L) W n z a w p q (Re D g.1) r (.inr ⟨by simpa using s,rfl⟩) (ih rest I f _ U _ w p (q.set r) g.2 (K _ _ F) X h)
  ·rw[if_neg R] at g;simp only[Bool.and_eq_true,List.all_eq_true] at g;obtain⟨g,a3⟩:=g;refine⟨fun hn=>(by rw[hn] at r;cases r),fun j hj=>?_⟩;by_cases a1:j=i
   ·subst a1;unfold bOp wpOp;simp only[D];by_cases hk:k=2
    ·subst hk;rw[if_pos rfl] at h;obtain⟨o',J,N,T⟩:=A j List.mem_cons_self;rw[D] at J;cases J;rw[if_pos (by simp[Region.wanted,N])];refine .inl ?_;unfold Oper.wp;rw[T w];simp only[Oper.upon];have g1:Gr w (w.alloc (.cells (nw j).Z (nw j).T)):=(Gr.refl w).alloc _;refine⟨M _ _ p g1,ih rest I f _ _ _ _ (M _ _ p g1) (q.set r) g (K _ _ F) (fun C b m=>?_) (h _ _ g1 (Jy.new _ _ w) (fun m=>?_))⟩
     ·rw[World.size_alloc];rcases m with m|m
      ·have:=x (by simp[hasAlloc]) b m;omega
      ·omega
     ·have:=x (by simp[hasAlloc]) _ m;omega
    ·rw[if_neg hk] at h;by_cases s:Region.wanted o (yielded ops a.tmps)=true
     ·rw[if_pos s,if_neg R] at h;rw[if_pos s];refine .inl (Oper.wp_mono (fun a' w' H=>⟨H.2.2.1,?_⟩) (J6X (Y:=fun a=>∀ i,(i,2) ∈ rest→M2 P ops nw i a) K (fun a d h=>h) F (h w (Gr.refl w))));refine ih rest I f _ _ a' w' H.2.2.1 (q.set r) g H.1 (fun C b m=>?_) H.2.2.2;have gr:=H.2.1 C;rcases m with m|m
      ·exact Nat.lt_of_lt_of_le (x (by simp[hasAlloc,C]) b m) gr.size
      ·exact m.2
     ·rw[if_neg s] at h;rw[if_neg s];exact⟨p,ih rest I f _ U _ w p (q.set r) g (K _ _ F) (fun C=>x (by simp[hasAlloc,C])) h⟩
   ·have a0:=a3 j hj;simp only[Bool.or_eq_true,beq_iff_eq,a1,false_or,Bool.and_eq_true] at a0;obtain⟨y,a8⟩:=a0
    cases hoj:ops[j]? with
    | none=>simp[hoj] at y
    | some oj=>
     simp only[hoj,Bool.and_eq_true] at y;obtain⟨y,a5⟩:=y;have O:=Tc _ y;obtain⟨o',J,N,T⟩:=A j (Xu _ y);rw[hoj] at J;cases J;unfold bOp wpOp;simp only[hoj];rw[if_pos (by simp[Region.wanted,N])];refine .inl ?_;unfold Oper.wp;rw[T w];simp only[Oper.upon];have g1:Gr w (w.alloc (.cells (nw j).Z (nw j).T)):=(Gr.refl w).alloc _;have a7:¬ U w.heap.size:=fun m=>by have:=x O _ m;omega
     have hE:=Qt hoj (Region.noSelect_spec L) a2 _ U a _ y (Jy.new _ _ w) a7 (Vp _ U a w _ O g1 h0);have a6:=Xt _ y;refine⟨M _ _ p g1,ih (eraseF j ((i,k) :: rest)) (by simp at a6 E ⊢;omega) f _ _ _ _ (M _ _ p g1) (q.set hj) a8 (fun V G=>?_) (fun _ b m=>?_) hE⟩
     ·exact(A V (Ub _ _ G)).keep (Region.noSelect_spec L) (fun oi S=>Y0 a5 S G) _
     ·rw[World.size_alloc];rcases m with m|m
      ·have:=x O b m;omega
      ·omega
def wpR (P:Program)(ops:Array Oper)(B:World→Prop)(K:Act→Prop):List Nat→Act→Prop
 | [],a=>K a
 | i :: rest,a=>∃ o,ops[i]?=some o∧Region.wanted o (yielded ops a.tmps)=true∧∃ v,(∀ w',B w'→(execOp a.eval o).run P w' = .ok (.value v) w')∧wpR P ops B K rest (a.put o.dst v)
def okR (md:Region.Mode)(ops:Array Oper)(f:Nat)(l:List (Nat × Nat)):List Nat→Array Bool→Bool
 | [],listed=>okN md ops f l listed
 | i :: rest,listed=>(Region.ready md ops listed).contains i && freeJ md ops listed i && okR md ops f l rest (listed.setIfInBounds i true)
theorem J1E (q:∀ w w',B w→Gr w w'→B w')(n:Region.noSelect ops=true)(m:∀ c a d v w,Q (.panic c) (a.put d v) w→Q (.panic c) a w)(r:∀ c a d v w,Q (.panic c) a w→Q (.panic c) (a.put d v) w)
  (f:Nat) (l:List (Nat × Nat)) (U:Nat→Prop) (w:World) (k:B w) (s:∀ b,U b→b < w.heap.size):
  ∀ (p:List Nat) (g:Array Bool) (a:Act),J7 md ops g→okR md ops f l p g=true→wpR P ops B (fun a=>(∀ i,(i,2) ∈ l→M2 P ops nw i a)∧wpN P ops Q B nw l U a w) p a→wpAnyB P md ops Q B (l.length+p.length) g a w
 | [],g,a,hc,j,h=>J6R q n m r _ l rfl f g U a w k hc j h.1 (fun _=>s) h.2
 | i :: rest,g,a,hc,j,h=>by
  obtain⟨o,u,C,v,A,h⟩:=h;unfold okR at j;simp only[Bool.and_eq_true] at j;obtain⟨⟨z,y⟩,j⟩:=j;have x:i ∈ Region.ready md ops g:=by simpa using z
  exact Pu u (Region.noSelect_spec n) m _ g a w k hc (Re u y) x (.inl ⟨C,A⟩) (J1E q n m r f l U w k s rest _ _ (hc.set x) j h)
theorem Si {id:Nat}{a:Act}{w:World}(B:World→Prop)(m:B w.drew)(n:∀ w w',B w→Gr w w'→B w')(nw:Nat→NewS)(f:Nat)(reads:List Nat)(g:List (Nat × Nat))(s:P.follows .mixedOrders=true)(x:Region.noSelect ops=true)
  (u:g.length+reads.length=ops.size) (l:okR .any ops f g reads (Array.replicate ops.size false)=true) (p:∀ c a d v w,Q (.panic c) (a.put d v) w→Q (.panic c) a w) (q:∀ c a d v w,Q (.panic c) a w→Q (.panic c) (a.put d v) w)
  (h:wpR P ops B (fun a=>(∀ i,(i,2) ∈ g→M2 P ops nw i a)∧wpN P ops Q B nw g (fun b=>b < w.heap.size) a w.drew) reads a):(Code.region id ops true).wp P Q a w:=by
 refine wp_region_any s (Sd (B:=B) _ _ _ _ ?_);have:=J1E (md:=.any) (nw:=nw) n x p q f g (fun b=>b < w.heap.size) w.drew m (fun _ r=>r) reads (Array.replicate ops.size false) a
  (fun j o _ k=>by simp[Array.getElem?_replicate] at k;split at k<;>simp at k) l h
 rw[u] at this;exact this
end
section steps
variable {P:Program}{ops:Array Oper}{Q:Exit→Act→World→Prop}{B:World→Prop}{nw:Nat→NewS}{U:Nat→Prop}{i:Nat}{rest:List (Nat × Nat)}{reads:List Nat}{a:Act}{w:World}{o:Oper}{KR:Act→Prop}
theorem Sf (h:Q .normal a w):wpN P ops Q B nw [] U a w:=h
theorem Sg (h:KR a):wpR P ops B KR [] a:=h
theorem Sh (b:ops[i]?=some o)(d:Region.wanted o (yielded ops a.tmps)=true){v:Value}(c:∀ w',B w'→(execOp a.eval o).run P w' = .ok (.value v) w')
  (h:∀ K:Act→Prop,(∀ a,wpR P ops B KR reads a→K a)→K (a.put o.dst v)):wpR P ops B KR (i :: reads) a:=
 ⟨o,b,d,v,c,h _ (fun _ h=>h)⟩
theorem O1 (b:ops[i]?=some o)(d:Region.wanted o (yielded ops a.tmps)=true){v:Value}(c:∀ w',B w'→(execOp a.eval o).run P w' = .ok (.value v) w')
  (h:∀ K:Act→World→Prop,(∀ a w,wpN P ops Q B nw rest U a w→K a w)→K (a.put o.dst v) w):wpN P ops Q B nw ((i,1) :: rest) U a w:=
 ⟨o,b,by rw[if_neg (by omega),if_pos d,if_pos rfl];exact⟨v,c,h _ (fun _ _ h=>h)⟩⟩
theorem Lt (d:ops[i]?=some o)(f:Region.wanted o (yielded ops a.tmps)=true)
  (h:∀ K:World→Act→World→Prop,(∀ b a w',wpN P ops Q B nw rest (fun x=>U x∨(b.heap.size≤x∧x < w'.heap.size)) a w'→K b a w')→∀ b,Gr w b→Oper.wp P o a b (fun c w'=>(hasAlloc rest=true→Gr b w')∧B w'∧K b c w') Q):wpN P ops Q B nw ((i,0) :: rest) U a w:=
 ⟨o,d,by rw[if_neg (by omega),if_pos f,if_neg (by omega)];exact h (fun b a w'=>wpN P ops Q B nw rest (fun x=>U x∨(b.heap.size≤x∧x < w'.heap.size)) a w') (fun _ _ _ h=>h)⟩
theorem Od (d:ops[i]?=some o)
  (h:∀ K:Act→World→Prop,∀ c b,Gr w c→Jy (nw i).Z (nw i).T b c→¬ U b→(∀ a w,wpN P ops Q B nw rest (fun x=>U x∨x=b) a w→K a w)→K (a.put o.dst ((nw i).v b)) c):wpN P ops Q B nw ((i,2) :: rest) U a w:=
 ⟨o,d,by rw[if_pos rfl];intro c b g f n;exact h _ c b g f n (fun _ _ h=>h)⟩
end steps
end Go.Proofs.YtcjgimlcefhhmaaGreatDoor.LateN
