/- Texts: Stip. -/
import Derived.Test.YtcjgimlcefhhmaaGreatDoorC1
set_option linter.unusedVariables false
set_option linter.unusedSimpArgs false
set_option maxRecDepth 100000
set_option maxHeartbeats 12800000
namespace Go.Proofs.YtcjgimlcefhhmaaGreatDoor.Stip
open Go.RowKit
section region
variable {P:Program}{ops:Array Oper}{md:Region.Mode}{Q:Exit→Act→World→Prop}
def isStore (o:Oper):Bool:=match o.op with
 | .store .. | .insert .. | .mapUpdate .. | .entryStore .. => true
 | .call c=>match c.argTypes[0]? with|some t=>Nat.beq t 40|none=>false
 | _=>false
def relOf (o:Oper)(w w':World):Prop:=isStore o=false→Gr w w'
theorem relOf.refl (o:Oper)(w:World):relOf o w w:=fun _=>Gr.refl w
def gOp (P:Program)(ops:Array Oper)(Q:Exit→Act→World→Prop)(i:Nat)(K:Act→World→Prop)(a:Act)(w:World):Prop:=
 wpOp P ops Q i (fun a' w'=>(∀ o,ops[i]?=some o→relOf o w w')∧K a' w') a w
def wpAnyG (P:Program)(md:Region.Mode)(ops:Array Oper)(Q:Exit→Act→World→Prop):Nat→Array Bool→Act→World→Prop
 | 0,listed,a,w=>Region.ready md ops listed=[]∧Q .normal a w
 | fuel+1,listed,a,w=>
  (Region.ready md ops listed=[]→Q .normal a w)∧
  ∀ i ∈ Region.ready md ops listed,gOp P ops Q i (wpAnyG P md ops Q fuel (listed.setIfInBounds i true)) a w
theorem Oa:∀ (fuel:Nat) (b:Array Bool) (a:Act) (w:World),wpAnyG P md ops Q fuel b a w→wpAny P md ops Q fuel b a w
 | 0,_,_,_,h=>h
 | fuel+1,_,_,_,h=>⟨h.1,fun i d=>wpOp_mono (fun c w' f=>Oa fuel _ c w' f.2) (h.2 i d)⟩
def pureOp (o:Oper):Bool:=match o.op with
 | .extract (.tmp _) _=>true
 | _=>false
theorem pureOp.any {P:Program}{ρ:Operand→Value}{o:Oper}(h:pureOp o=true){v:Value}{w:World}(b:(execOp ρ o).run P w = .ok (.value v) w)(w':World):(execOp ρ o).run P w' = .ok (.value v) w':=by
 unfold pureOp at h
 split at h
 ·rename_i t i c;unfold execOp at b ⊢;simp only[c] at b ⊢;unfold Instr.extract at b ⊢
  split at b<;>simp_all[go_sem]
  split at b<;>simp_all[go_sem]
 ·cases h
def J0 (P:Program)(ops:Array Oper)(o:Oper)(v:Value)(a:Act)(w:World):Prop:=
 (Region.wanted o (yielded ops a.tmps)=true∧∀ w',Gr w w'∨pureOp o=true→(execOp a.eval o).run P w' = .ok (.value v) w')∨
 (Region.wanted o (yielded ops a.tmps)=false∧v=undef)
theorem J0.mk {o:Oper}{v:Value}{a:Act}{w:World}(c:Region.wanted o (yielded ops a.tmps)=true)(b:∀ w',Gr w w'→(execOp a.eval o).run P w' = .ok (.value v) w'):J0 P ops o v a w:=
 .inl ⟨c,fun w' h=>h.elim (b w') fun h=>pureOp.any h (b w (Gr.refl w)) w'⟩
theorem J0.grow {o:Oper}{v:Value}{a:Act}{w w':World}(j:J0 P ops o v a w)(f:Gr w w'∨pureOp o=true):J0 P ops o v a w':=by
 rcases j with⟨c,d⟩|h
 ·exact .inl ⟨c,fun k b=>d k (b.elim (fun b=>f.imp (fun g=>g.trans b) id) .inr)⟩
 ·exact .inr h
theorem J0.of_same {o:Oper}{v:Value}{a b:Act}{w:World}(f:J0 P ops o v a w)(c:execOp b.eval o=execOp a.eval o)
  (d:Region.wanted o (yielded ops b.tmps)=Region.wanted o (yielded ops a.tmps)):J0 P ops o v b w:=by
 unfold J0 at *;rw[c,d];exact f
theorem J0.gOp {i:Nat}{o:Oper}{v:Value}{a:Act}{w:World}(f:ops[i]?=some o)(j:J0 P ops o v a w)
  {K:Act→World→Prop} (h:K (a.put o.dst v) w):gOp P ops Q i K a w:=by
 unfold Proofs.YtcjgimlcefhhmaaGreatDoor.Stip.gOp wpOp;simp only[f];have c:∀ d:Oper,some o=some d→relOf d w w:=fun _ _=>relOf.refl _ _;rcases j with⟨b,g⟩|⟨b,rfl⟩
 ·simp only[b,if_true,Oper.wp,g w (.inl (Gr.refl w)),Oper.upon];exact .inl ⟨c,h⟩
 ·simp only[b,Bool.false_eq_true,if_false];exact⟨c,h⟩
theorem To {j:Nat}{g k:Oper}{v:Value}(H:ops[j]?=some k)(G:g.apart ops k=true)(s:isStore k=false∨pureOp g=true)
  (J:∀ t b,g.op≠.select t b) (F:∀ t b,k.op≠.select t b)
  (D:∀ c a d v w,Q (.panic c) (a.put d v) w→Q (.panic c) a w) {K:Act→World→Prop} {a:Act} {w:World}
  (l:J0 P ops g v a w) (h:gOp P ops Q j K (a.put g.dst v) w):
  gOp P ops Q j (fun B w'=>J0 P ops g v B w'∧K (B.put g.dst v) w') a w:=by
 obtain⟨y,p,C⟩:=Oper.apart_spec G;have q:∀ (a:Act) (w:World),J0 P ops g v a w→∀ u,J0 P ops g v (a.put k.dst u) w:=fun a w l u=>
  l.of_same (execOp_put g J a k.dst u C) (wanted_put g a k.dst u C)
 have L:∀ d w,J0 P ops g v a w→J0 P ops g v { a with defers:=d :: a.defers } w:=fun d w l=>l.of_same rfl rfl;unfold gOp wpOp at *;simp only[H] at *;rw[wanted_put k a g.dst v y] at h
 split
 ·rename_i z;simp only[z,if_true] at h;rcases h with h|⟨E,I⟩
  case inr=>exact .inr ⟨by unfold Oper.asks at *;rw[execOp_put k F a g.dst v y] at E;exact E,I⟩
  refine .inl ?_;unfold Oper.wp at *;rw[execOp_put k F a g.dst v y] at h;generalize (execOp a.eval k).run P w=r at *
  cases r with
  | ok n w'=>
   cases n<;>simp only[Oper.upon] at h ⊢
   case value u=>exact⟨h.1,q a w' (l.grow (s.imp (h.1 k rfl) id)) u,by rw[← Act.put_comm a v u p];exact h.2⟩
   case skip=>exact⟨h.1,q a w' (l.grow (s.imp (h.1 k rfl) id)) _,by rw[← Act.put_comm a v undef p];exact h.2⟩
   case defer d=>
    refine⟨h.1,q _ w' (L d w' (l.grow (s.imp (h.1 k rfl) id))) _,?_⟩;rw[← Act.put_comm _ v undef p,← Act.put_defers];exact h.2
   case enter f args=>
    refine Calls.mono h fun e A m=>?_
    cases e with
    | returned u=>exact⟨m.1,q a A (l.grow (s.imp (m.1 k rfl) id)) u,by rw[← Act.put_comm a v u p];exact m.2⟩
    | panicked c=>exact D _ _ _ _ _ m
    | outgrown=>exact m
   case row row args=>exact Rows.mono h fun u A m=>⟨m.1,q a A (l.grow (s.imp (m.1 k rfl) id)) u,by rw[← Act.put_comm a v u p];exact m.2⟩
  | halt x w'=>
   cases x<;>simp only[Oper.upon] at h ⊢
   case panic u=>exact D _ _ _ _ _ h
 ·rename_i z;simp only[z] at h;exact⟨h.1,q a w (l) _,by rw[← Act.put_comm a v undef p];exact h.2⟩
theorem Tn {i:Nat}{a:Act}{w:World}{K b:Act→World→Prop}(h:∀ a w,K a w→b a w)
  (d:gOp P ops Q i K a w):gOp P ops Q i b a w:=wpOp_mono (fun a w c=>⟨c.1,h a w c.2⟩) d
def J7 (md:Region.Mode)(ops:Array Oper)(listed:Array Bool):Prop:=
 ∀ j o,ops[j]?=some o→listed.getD j false=true→∀ e ∈ o.after,Region.binds md e=true→listed.getD e.on false=true
theorem J7.set {b:Array Bool}{i:Nat}(m:J7 md ops b)(n:i ∈ Region.ready md ops b):J7 md ops (b.setIfInBounds i true):=by
 intro j o f h e d c;refine getD_set_true ?_;obtain⟨_,p,k,l⟩:=mem_ready.1 n;by_cases g:i=j
 ·subst g;rw[f] at k;cases k;exact l e d c
 ·rw[getD_set_ne false g] at h;exact m j o f h e d c
inductive Jz (md:Region.Mode)(ops:Array Oper)(i:Nat):Nat→Prop
 | base {j:Nat} {o:Oper} {e:Edge} (hj:ops[j]?=some o) (he:e ∈ o.after) (hb:Region.binds md e=true) (h:e.on=i):Jz md ops i j
 | step {j:Nat} {o:Oper} {e:Edge} (hj:ops[j]?=some o) (he:e ∈ o.after) (hb:Region.binds md e=true) (h:Jz md ops i e.on):Jz md ops i j
theorem Jz.listed {b:Array Bool}{i j:Nat}(c:J7 md ops b)(h:Jz md ops i j)(d:b.getD j false=true):b.getD i false=true:=by
 induction h with
 | base hj he hb h=>subst h;exact c _ _ hj d _ he hb
 | step hj he hb h ih=>exact ih (c _ _ hj d _ he hb)
theorem Jz.not_ready {c:Array Bool}{i j:Nat}(l:J7 md ops c)(m:i ∈ Region.ready md ops c)(b:j ∈ Region.ready md ops c):¬ Jz md ops i j:=by
 intro h;obtain⟨g,_⟩:=mem_ready.1 m;obtain⟨_,n,d,k⟩:=mem_ready.1 b;have key:c.getD i false=true:=by
  cases h with
  | base b he hb h=>rw[b] at d;cases d;subst h;exact k _ he hb
  | step b he hb h=>rw[b] at d;cases d;exact h.listed l (k _ he hb)
 rcases Nat.lt_or_ge i c.size with f|f
 ·simp[f] at g key;rw[g] at key;cases key
 ·simp[Array.getElem?_eq_none f] at g
theorem Mu {i:Nat}{l:Oper}{v:Value}(t:ops[i]?=some l)(C:∀ (j:Nat) (o:Oper) q b,ops[j]?=some o→o.op≠.select q b)
  (I:∀ c a d v w,Q (.panic c) (a.put d v) w→Q (.panic c) a w):
  ∀ (fuel:Nat) (f:Array Bool) (a:Act) (w:World),J7 md ops f→
   (∀ j p,ops[j]?=some p→j≠i→f.getD j true=false→¬ Jz md ops i j→l.apart ops p=true∧(isStore p=false∨pureOp l=true))→
   i ∈ Region.ready md ops f→J0 P ops l v a w→
   wpAnyG P md ops Q fuel (f.setIfInBounds i true) (a.put l.dst v) w→wpAnyG P md ops Q (fuel+1) f a w:=by
 intro fuel
 induction fuel with
 | zero=>
  intro f a w _ _ m s H;refine⟨fun h=>(by rw[h] at m;cases m),fun j n=>?_⟩;by_cases g:j=i
  ·subst g;exact s.gOp t H
  ·have:=ready_mono n g;rw[H.1] at this
   cases this
 | succ fuel ih=>
  intro f a w y z m s H;refine⟨fun h=>(by rw[h] at m;cases m),fun j n=>?_⟩;by_cases g:j=i
  ·subst g;exact s.gOp t H
  ·have F:=H.2 j (ready_mono n g);obtain⟨B,p,u,R⟩:=mem_ready.1 n;obtain⟨J,O⟩:=z j p u g B (Jz.not_ready y m n);have G:=To u J O (fun q b=>C i l q b t) (fun q b=>C j p q b u) I s F;have K:∀ k r,ops[k]?=some r→k≠i→(f.setIfInBounds j true).getD k true=false→
     ¬ Jz md ops i k→l.apart ops r=true∧(isStore r=false∨pureOp l=true):=fun k r L M D N=>by
    refine z k r L M ?_ N;by_cases A:j=k
    ·subst A;exact B
    ·rw[getD_set_ne true A] at D;exact D
   refine Tn (fun E w' x=>ih (f.setIfInBounds j true) E w' (y.set n) K (ready_mono m (Ne.symm g)) x.1 ?_) G;rw[Array.setIfInBounds_comm _ _ g];exact x.2
def wpE (P:Program)(ops:Array Oper)(Q:Exit→Act→World→Prop):List (Nat × Bool)→Act→World→Prop
 | [],a,w=>Q .normal a w
 | (i,r) :: rest,a,w=>∃ o,ops[i]?=some o∧
   if Region.wanted o (yielded ops a.tmps)=true then
    (if r=true then ∃ v,(∀ w',Gr w w'→(execOp a.eval o).run P w' = .ok (.value v) w')∧wpE P ops Q rest (a.put o.dst v) w
     else Oper.wp P o a w (fun a' w'=>relOf o w w'∧wpE P ops Q rest a' w') Q)
   else wpE P ops Q rest (a.put o.dst undef) w
def waitsGo (md:Region.Mode)(i:Nat):List Oper→Array Bool→Array Bool
 | [],acc=>acc
 | o :: l,acc=>waitsGo md i l (acc.push (o.after.any fun e=>Region.binds md e && (e.on == i || acc.getD e.on false)))
theorem Pt {i:Nat}:∀ (l:List Oper) (b:Array Bool),(∀ j,l[j]?=ops[b.size+j]?)→(∀ j,b.getD j false=true→Jz md ops i j)→
  ∀ j,(waitsGo md i l b).getD j false=true→Jz md ops i j
 | [],_,_,hacc=>hacc
 | o :: l,b,hl,hacc=>by
  refine Pt l _ (fun j=>?_) (fun j d=>?_)
  ·have:=hl (j+1);simpa[Nat.add_assoc,Nat.add_comm 1 j] using this
  ·by_cases h:j=b.size
   ·subst h;simp only[Array.getD_eq_getD_getElem?,Array.getElem?_push_size,Option.getD_some] at d;obtain⟨e,g,c⟩:=Array.any_eq_true'.1 d;simp only[Bool.and_eq_true,Bool.or_eq_true,beq_iff_eq] at c;have f:ops[b.size]?=some o:=by simpa using(hl 0).symm
    rcases c.2 with h|h
    ·exact .base f g c.1 h
    ·exact .step f g c.1 (hacc _ (by simpa[Array.getD_eq_getD_getElem?] using h))
   ·refine hacc j ?_;simpa[Array.getD_eq_getD_getElem?,Array.getElem?_push,h] using d
def freeG (md:Region.Mode)(ops:Array Oper)(listed:Array Bool)(i:Nat):Bool:=
 match ops[i]? with
 | none=>false
 | some oi=>
  (List.range ops.size).all fun j=>j == i || listed.getD j true || match ops[j]? with
   | some oj=>(oi.apart ops oj && (!isStore oj || pureOp oi)) || (waitsGo md i ops.toList #[]).getD j false
   | none=>true
theorem On {i:Nat}{c:Oper}{g:Array Bool}(k:ops[i]?=some c)(h:freeG md ops g i=true)(j:Nat)(d:Oper)
  (f:ops[j]?=some d) (l:j≠i) (n:g.getD j true=false) (m:¬ Jz md ops i j):
  c.apart ops d=true∧(isStore d=false∨pureOp c=true):=by
 simp only[freeG,k,List.all_eq_true,List.mem_range] at h;have b:=h j (Array.getElem?_eq_some_iff.1 f).1;simp only[f,Bool.or_eq_true,beq_iff_eq,l,false_or,n,Bool.false_eq_true] at b;rcases b with b|b
 ·simpa using b
 ·exact absurd (Pt (md:=md) (ops:=ops) (i:=i) ops.toList #[] (by simp) (by simp) j b) m
def eagerB (md:Region.Mode)(ops:Array Oper):List (Nat × Bool)→Array Bool→Bool
 | [],listed=>(Region.ready md ops listed).isEmpty
 | (i,r) :: rest,listed=>(if r then (Region.ready md ops listed).contains i && freeG md ops listed i else Region.ready md ops listed == [i]) && eagerB md ops rest (listed.setIfInBounds i true)
theorem Ms (n:Region.noSelect ops=true)(k:∀ c a d v w,Q (.panic c) (a.put d v) w→Q (.panic c) a w):
  ∀ (l:List (Nat × Bool)) (b:Array Bool) (a:Act) (w:World),J7 md ops b→eagerB md ops l b=true→wpE P ops Q l a w→wpAnyG P md ops Q l.length b a w
 | [],b,a,w,_,g,h=>⟨by simpa[eagerB] using g,h⟩
 | (i,true) :: l,b,a,w,hc,g,h=>by
  simp only[eagerB,if_true,Bool.and_eq_true] at g;obtain⟨⟨q,u⟩,p⟩:=g;obtain⟨o,m,h⟩:=h;have r:i ∈ Region.ready md ops b:=by simpa using q
  by_cases f:Region.wanted o (yielded ops a.tmps)=true
  ·rw[if_pos f,if_pos rfl] at h;obtain⟨v,A,h⟩:=h;exact Mu m (Region.noSelect_spec n) k l.length b a w hc (On m u) r (.mk f A) (Ms n k l _ _ _ (hc.set r) p h)
  ·rw[if_neg f] at h;exact Mu m (Region.noSelect_spec n) k l.length b a w hc (On m u) r (.inr ⟨by simpa using f,rfl⟩) (Ms n k l _ _ _ (hc.set r) p h)
 | (i,false) :: l,b,a,w,hc,g,h=>by
  simp only[eagerB,Bool.false_eq_true,if_false,Bool.and_eq_true,beq_iff_eq] at g;obtain⟨q,p⟩:=g;obtain⟨o,m,h⟩:=h;refine⟨fun s=>(by rw[q] at s;cases s),fun j x=>?_⟩;rw[q,List.mem_singleton] at x;subst x;have t:J7 md ops (b.setIfInBounds j true):=hc.set (by rw[q];simp);unfold gOp wpOp;simp only[m];by_cases f:Region.wanted o (yielded ops a.tmps)=true
  ·rw[if_pos f,if_neg (by simp)] at h;rw[if_pos f];refine .inl (Oper.wp_mono (fun B w' y=>⟨fun C z=>?_,Ms n k l _ _ _ t p y.2⟩) h)
   cases z;exact y.1
  ·rw[if_neg f] at h;rw[if_neg f];exact⟨fun _ _=>relOf.refl _ _,Ms n k l _ _ _ t p h⟩
theorem Lu {id:Nat}{a:Act}{w:World}(b:List (Nat × Bool))(l:P.follows .mixedOrders=true)(n:Region.noSelect ops=true)
  (m:b.length=ops.size) (g:eagerB .any ops b (Array.replicate ops.size false)=true) (k:∀ c a d v w,Q (.panic c) (a.put d v) w→Q (.panic c) a w)
  (h:wpE P ops Q b a w.drew):(Code.region id ops true).wp P Q a w:=by
 refine wp_region_any l (Oa _ _ _ _ ?_);have:=Ms (md:=.any) n k b (Array.replicate ops.size false) a w.drew (fun j o _ f=>by simp[Array.getElem?_replicate] at f;split at f<;>simp at f) g h;rw[m] at this;exact this
end region
section steps
variable {P:Program}{ops:Array Oper}{Q:Exit→Act→World→Prop}{i:Nat}{rest:List (Nat × Bool)}{a:Act}{w:World}{o:Oper}
theorem Jg (h:Q .normal a w):wpE P ops Q [] a w:=h
theorem Vm (b:ops[i]?=some o)(c:Region.wanted o (yielded ops a.tmps)=true)
  (h:∀ K:Act→World→Prop,(∀ a w,wpE P ops Q rest a w→K a w)→∃ v,(∀ w',Gr w w'→(execOp a.eval o).run P w' = .ok (.value v) w')∧K (a.put o.dst v) w):wpE P ops Q ((i,true) :: rest) a w:=
 ⟨o,b,by rw[if_pos c,if_pos rfl];exact h _ (fun _ _ h=>h)⟩
theorem Se {b:World}(c:Gr b w)(f:ops[i]?=some o)(j:Region.wanted o (yielded ops a.tmps)=true){v:Value}(g:∀ w',Gr b w'→(execOp a.eval o).run P w' = .ok (.value v) w')
  (h:∀ K:Act→World→Prop,(∀ a w,wpE P ops Q rest a w→K a w)→K (a.put o.dst v) w):wpE P ops Q ((i,true) :: rest) a w:=
 ⟨o,f,by rw[if_pos j,if_pos rfl];exact⟨v,fun w' d=>g w' (c.trans d),h _ (fun _ _ h=>h)⟩⟩
theorem Jj (c:ops[i]?=some o)(d:Region.wanted o (yielded ops a.tmps)=true)
  (h:∀ K:Act→World→Prop,(∀ a w,wpE P ops Q rest a w→K a w)→Oper.wp P o a w (fun b w'=>relOf o w w'∧K b w') Q):wpE P ops Q ((i,false) :: rest) a w:=
 ⟨o,c,by rw[if_pos d,if_neg (by simp)];exact h _ (fun _ _ h=>h)⟩
theorem J1F {r:Bool}(b:ops[i]?=some o)(c:Region.wanted o (yielded ops a.tmps)=false)(h:wpE P ops Q rest (a.put o.dst undef) w):wpE P ops Q ((i,r) :: rest) a w:=
 ⟨o,b,by rw[if_neg (by simp[c])];exact h⟩
end steps
section region
variable {P:Program}{ops:Array Oper}{md:Region.Mode}{Q:Exit→Act→World→Prop}
def predsM (md:Region.Mode):List Edge→Nat
 | []=>0
 | e :: l=>bif Region.binds md e then Nat.lor (Nat.pow 2 e.on) (predsM md l) else predsM md l
theorem Nn {k:Nat}:∀ l:List Edge,(predsM md l).testBit k=true↔∃ e ∈ l,Region.binds md e=true∧e.on=k
 | []=>by simp[predsM]
 | e :: l=>by
  have b:=Nn (k:=k) l;unfold predsM
  cases hb:Region.binds md e
  ·simp[b,hb]
  ·show((2 ^ e.on ||| predsM md l).testBit k=true)↔_;rw[Nat.testBit_or,Bool.or_eq_true,b,Nat.testBit_two_pow];simp[hb]
def subM (p L:Nat):Bool:=Nat.beq (Nat.land p L) p
theorem U6 {p L:Nat}:subM p L=true↔∀ k,p.testBit k=true→L.testBit k=true:=by
 unfold subM;rw[Nat.beq_eq];show(p &&& L=p)↔_;constructor
 ·intro h k b;rw[← h,Nat.testBit_and,Bool.and_eq_true] at b;exact b.2
 ·intro h;apply Nat.eq_of_testBit_eq;intro k;rw[Nat.testBit_and]
  cases hp:p.testBit k
  ·rfl
  ·rw[h k hp];rfl
def tb (m n:Nat):Bool:=Nat.beq (Nat.land 1 (Nat.shiftRight m n)) 1
theorem Np (m n:Nat):tb m n=m.testBit n:=by
 unfold tb Nat.testBit;have h:Nat.land 1 (Nat.shiftRight m n)=(m >>> n) % 2:=by
  show 1 &&& (m >>> n)=_;rw[Nat.and_comm,Nat.and_one_is_mod]
 show Nat.beq (Nat.land 1 (Nat.shiftRight m n)) 1=(1 &&& (m >>> n) != 0)
 rw[show 1 &&& (m >>> n)=Nat.land 1 (Nat.shiftRight m n) from rfl,h];have:=Nat.mod_lt (m >>> n) (show 0 < 2 by decide);generalize (m >>> n) % 2=x at *
 match x,this with
 | 0,_=>rfl
 | 1,_=>rfl
def waitsM (md:Region.Mode)(I:Nat):List Oper→Nat→Nat→Nat
 | [],_,W=>W
 | o :: l,k,W=>bif Nat.beq (Nat.land (predsM md o.after.toList) (Nat.lor W I)) 0 then waitsM md I l (k+1) W else waitsM md I l (k+1) (Nat.lor W (Nat.pow 2 k))
theorem N8 {i:Nat}:∀ (l:List Oper) (k W:Nat),(∀ j,l[j]?=ops[k+j]?)→(∀ j,W.testBit j=true→Jz md ops i j)→
  ∀ j,(waitsM md (2 ^ i) l k W).testBit j=true→Jz md ops i j
 | [],_,_,_,hW=>hW
 | o :: l,k,W,hl,hW=>by
  have m:∀ j,l[j]?=ops[k+1+j]?:=fun j=>by
   have:=hl (j+1);simpa[Nat.add_assoc,Nat.add_comm 1 j] using this
  have f:ops[k]?=some o:=by simpa using(hl 0).symm
  unfold waitsM
  cases hb:Nat.beq (Nat.land (predsM md o.after.toList) (Nat.lor W (2 ^ i))) 0
  ·refine N8 l (k+1) _ m (fun j b=>?_);have b:(W ||| 2 ^ k).testBit j=true:=b;rw[Nat.testBit_or,Bool.or_eq_true,Nat.testBit_two_pow] at b;rcases b with b|b
   ·exact hW j b
   ·obtain rfl:k=j:=by simpa using b
    have n:predsM md o.after.toList &&& (W ||| 2 ^ i)≠0:=fun h=>by
     rw[show Nat.land (predsM md o.after.toList) (Nat.lor W (2 ^ i))=predsM md o.after.toList &&& (W ||| 2 ^ i) from rfl,h] at hb
     cases hb
    obtain⟨t,d⟩:=Nat.exists_testBit_of_ne_zero n;rw[Nat.testBit_and,Nat.testBit_or,Bool.and_eq_true,Bool.or_eq_true,Nat.testBit_two_pow] at d;obtain⟨e,c,g,rfl⟩:=(Nn _).1 d.1;have c:e ∈ o.after:=by simpa using c
    rcases d.2 with h|h
    ·exact .step f c g (hW _ h)
    ·exact .base f c g (by simpa using Eq.symm (by simpa using h))
  ·exact N8 l (k+1) _ m hW
def freeM (ops:Array Oper)(oi:Oper)(skip:Nat):List Oper→Nat→Bool
 | [],_=>true
 | o :: l,j=>(tb skip j || (oi.apart ops o && (!isStore o || pureOp oi))) && freeM ops oi skip l (j+1)
theorem Qb {b:Oper}{skip:Nat}:∀ (l:List Oper) (k:Nat),(∀ j,l[j]?=ops[k+j]?)→freeM ops b skip l k=true→
  ∀ j o,k≤j→ops[j]?=some o→skip.testBit j=false→b.apart ops o=true∧(isStore o=false∨pureOp b=true)
 | [],k,hl,_,j,o,hk,hj,_=>by
  have:=hl (j - k);rw[show k+(j - k)=j by omega,hj] at this
  cases this
 | o' :: l,k,hl,h,j,o,hk,hj,hs=>by
  unfold freeM at h;rw[Bool.and_eq_true] at h;by_cases f:j=k
  ·subst f;have d:ops[j]?=some o':=by simpa using(hl 0).symm
   rw[d] at hj
   cases hj
   have c:=h.1;rw[Np,hs,Bool.false_or] at c;simpa using c
  ·exact Qb l (k+1) (fun j=>by have:=hl (j+1);simpa[Nat.add_assoc,Nat.add_comm 1 j] using this) h.2 j o (by omega) hj hs
def onlyM (md:Region.Mode)(L skip:Nat):List Oper→Nat→Bool
 | [],_=>true
 | o :: l,j=>(tb skip j || !subM (predsM md o.after.toList) L) && onlyM md L skip l (j+1)
theorem M7 {L skip:Nat}:∀ (l:List Oper) (k:Nat),(∀ j,l[j]?=ops[k+j]?)→onlyM md L skip l k=true→
  ∀ j o,k≤j→ops[j]?=some o→skip.testBit j=false→subM (predsM md o.after.toList) L=false
 | [],k,hl,_,j,o,hk,hj,_=>by
  have:=hl (j - k);rw[show k+(j - k)=j by omega,hj] at this
  cases this
 | o' :: l,k,hl,h,j,o,hk,hj,hs=>by
  unfold onlyM at h;rw[Bool.and_eq_true] at h;by_cases d:j=k
  ·subst d;have c:ops[j]?=some o':=by simpa using(hl 0).symm
   rw[c] at hj
   cases hj
   have b:=h.1;rw[Np,hs,Bool.false_or] at b;simpa using b
  ·exact M7 l (k+1) (fun j=>by have:=hl (j+1);simpa[Nat.add_assoc,Nat.add_comm 1 j] using this) h.2 j o (by omega) hj hs
def fastB (md:Region.Mode)(ops:Array Oper)(os:List Oper):List (Nat × Bool)→Nat→Bool
 | [],L=>onlyM md L L os 0
 | (i,r) :: rest,L=>match os[i]? with
  | none=>false
  | some oi=>(!tb L i && subM (predsM md oi.after.toList) L) &&
   ((bif r then freeM ops oi (Nat.lor (Nat.lor L (Nat.pow 2 i)) (waitsM md (Nat.pow 2 i) os 0 0)) os 0 else onlyM md L (Nat.lor L (Nat.pow 2 i)) os 0) &&
    fastB md ops os rest (Nat.lor L (Nat.pow 2 i)))
theorem Mq {L:Nat}{b:Array Bool}(q:b.size=ops.size)(f:∀ j,b.getD j false=L.testBit j){i:Nat}{o:Oper}(l:ops[i]?=some o):
  i ∈ Region.ready md ops b↔L.testBit i=false∧subM (predsM md o.after.toList) L=true:=by
 have n:i < b.size:=by rw[q];exact(Array.getElem?_eq_some_iff.1 l).1
 have e:b.getD i true=L.testBit i:=by rw[← f i];simp[n]
 rw[mem_ready,e,U6];constructor
 ·rintro⟨c,r,m,d⟩;rw[l] at m
  cases m
  refine⟨c,fun k p=>?_⟩;obtain⟨e,h,g,rfl⟩:=(Nn _).1 p;rw[← f];exact d e (by simpa using h) g
 ·rintro⟨c,d⟩;exact⟨c,o,l,fun e h g=>by rw[f];exact d _ ((Nn _).2 ⟨e,by simpa using h,g,rfl⟩)⟩
theorem Qo {L i:Nat}{b:Array Bool}(d:i < b.size)(c:∀ j,b.getD j false=L.testBit j)(j:Nat):
  (b.setIfInBounds i true).getD j false=(Nat.lor L (Nat.pow 2 i)).testBit j:=by
 show _=(L ||| 2 ^ i).testBit j;rw[Nat.testBit_or,Nat.testBit_two_pow,← c j];by_cases h:i=j
 ·subst h;simp[d]
 ·rw[getD_set_ne false h];simp[h]
theorem Mt (s:Region.noSelect ops=true)(p:∀ c a d v w,Q (.panic c) (a.put d v) w→Q (.panic c) a w):
  ∀ (l:List (Nat × Bool)) (L:Nat) (b:Array Bool) (a:Act) (w:World),b.size=ops.size→(∀ j,b.getD j false=L.testBit j)→J7 md ops b→fastB md ops ops.toList l L=true→wpE P ops Q l a w→wpAnyG P md ops Q l.length b a w
 | [],L,b,a,w,hz,hL,_,x,h=>by
  refine⟨?_,h⟩;rw[List.eq_nil_iff_forall_not_mem];intro j f;obtain⟨_,o,g,_⟩:=mem_ready.1 f;have t:=(Mq hz hL g).1 f;have u:=M7 ops.toList 0 (by simp) x j o (Nat.zero_le _) g t.1;rw[t.2] at u
  cases u
 | (i,r) :: l,L,b,a,w,hz,hL,hc,x,h=>by
  obtain⟨o,g,h⟩:=h;have K:i < b.size:=by rw[hz];exact(Array.getElem?_eq_some_iff.1 g).1
  have B:ops.toList[i]?=some o:=by simpa using g
  simp only[fastB,B,Bool.and_eq_true,Np] at x;obtain⟨⟨R,S⟩,q,y⟩:=x;have m:i ∈ Region.ready md ops b:=(Mq hz hL g).2 ⟨by simpa using R,S⟩;have A:(b.setIfInBounds i true).size=ops.size:=by simpa using hz
  have z:=Qo K hL
  cases r
  ·have q:onlyM md L (Nat.lor L (Nat.pow 2 i)) ops.toList 0=true:=q;have O:∀ j ∈ Region.ready md ops b,j=i:=fun j f=>by
    obtain⟨_,n,G,_⟩:=mem_ready.1 f;have t:=(Mq hz hL G).1 f;by_cases E:j=i
    ·exact E
    ·have I:(Nat.lor L (Nat.pow 2 i)).testBit j=false:=by
      show(L ||| 2 ^ i).testBit j=false;rw[Nat.testBit_or,t.1,Nat.testBit_two_pow];simp[Ne.symm E]
     have u:=M7 ops.toList 0 (by simp) q j n (Nat.zero_le _) G I;rw[t.2] at u
     cases u
   refine⟨fun H=>(by rw[H] at m;cases m),fun j f=>?_⟩;obtain rfl:=O j f;have C:J7 md ops (b.setIfInBounds j true):=hc.set m;unfold gOp wpOp;simp only[g];by_cases k:Region.wanted o (yielded ops a.tmps)=true
   ·rw[if_pos k,if_neg (by simp)] at h;rw[if_pos k];refine .inl (Oper.wp_mono (fun V w' F=>⟨fun W B=>?_,Mt s p l _ _ _ _ A z C y F.2⟩) h)
    cases B;exact F.1
   ·rw[if_neg k] at h;rw[if_neg k];exact⟨fun _ _=>relOf.refl _ _,Mt s p l _ _ _ _ A z C y h⟩
  ·have q:freeM ops o (Nat.lor (Nat.lor L (Nat.pow 2 i)) (waitsM md (Nat.pow 2 i) ops.toList 0 0)) ops.toList 0=true:=q;have D:∀ j n,ops[j]?=some n→j≠i→b.getD j true=false→¬ Jz md ops i j→o.apart ops n=true∧(isStore n=false∨pureOp o=true):=fun j n f M T N=>by
    refine Qb ops.toList 0 (by simp) q j n (Nat.zero_le _) f ?_;have J:j < b.size:=by rw[hz];exact(Array.getElem?_eq_some_iff.1 f).1
    have e:b.getD j true=L.testBit j:=by rw[← hL j];simp[J]
    show((L ||| 2 ^ i) ||| waitsM md (2 ^ i) ops.toList 0 0).testBit j=false;rw[Nat.testBit_or,Nat.testBit_or,← e,T,Nat.testBit_two_pow]
    cases hwt:(waitsM md (2 ^ i) ops.toList 0 0).testBit j
    ·simp[Ne.symm M]
    ·exact absurd (N8 (md:=md) (ops:=ops) (i:=i) ops.toList 0 0 (by simp) (by simp) j hwt) N
   by_cases k:Region.wanted o (yielded ops a.tmps)=true
   ·rw[if_pos k,if_pos rfl] at h;obtain⟨v,U,h⟩:=h;exact Mu g (Region.noSelect_spec s) p l.length b a w hc D m (.mk k U) (Mt s p l _ _ _ _ A z (hc.set m) y h)
   ·rw[if_neg k] at h;exact Mu g (Region.noSelect_spec s) p l.length b a w hc D m (.inr ⟨by simpa using k,rfl⟩) (Mt s p l _ _ _ _ A z (hc.set m) y h)
theorem Vq {id:Nat}{a:Act}{w:World}(b:List (Nat × Bool))(m:P.follows .mixedOrders=true)(p:Region.noSelect ops=true)
  (n:b.length=ops.size) (g:fastB .any ops ops.toList b 0=true) (k:∀ c a d v w,Q (.panic c) (a.put d v) w→Q (.panic c) a w)
  (h:wpE P ops Q b a w.drew):(Code.region id ops true).wp P Q a w:=by
 refine wp_region_any m (Oa _ _ _ _ ?_);have:=Mt (md:=.any) p k b 0 (Array.replicate ops.size false) a w.drew (by simp) (fun j=>by
  rw[Nat.zero_testBit];by_cases l:j < ops.size<;>simp[Array.getElem?_replicate,l]) (fun j o _ f=>by simp[Array.getElem?_replicate] at f;split at f<;>simp at f) g h
 rw[n] at this;exact this
end region
theorem Vk {P:Program}{ops:Array Oper}{Q:Exit→Act→World→Prop}{i:Nat}{rest:List (Nat × Bool)}{a:Act}{w:World}{o:Oper}{f:FuncId}{args:Array Value}
  (g:ops[i]?=some o) (j:Region.wanted o (yielded ops a.tmps)=true) (k:(execOp a.eval o).run P w = .ok (.enter f args) w)
  (h:∀ K:Act→World→Prop,(∀ a w,wpE P ops Q rest a w→K a w)→Calls P f args w fun e w'=>∃ v,e = .returned v∧Gr w w'∧K (a.put o.dst v) w'):wpE P ops Q ((i,false) :: rest) a w:=by
 refine Jj g j fun K b=>?_;unfold Oper.wp;rw[k];simp only[Oper.upon];refine(h K b).mono ?_;rintro e w' ⟨v,rfl,c,d⟩;exact⟨fun _=>c,d⟩
theorem Rd {P:Program}{ρ:Operand→Value}{o:Oper}{w:World}{c:Call}{x:Operand}{f:FuncId}{first d:Array Value}{b:Func}(p:o.op = .call c)(k:c.callee = .value x)
  (q : ρ x = .func (.func f) first d) (l : P.funcs[f]? = some b) (m : (b.name == "runtime.NumGoroutine") = false) (g : b.body.isNone = false) :
  (execOp ρ o).run P w = .ok (.enter f ((first ++ c.args.map ρ) ++ d)) w:=by
 have n : ¬ b.name = "runtime.NumGoroutine" := by simpa using m
 have j:¬ b.body=none:=by intro h;rw[h] at g;cases g
 unfold execOp;simp only[p,resolve,k,q,Deferred.ofValue,invoke,callFunc];simp[go_sem,l,n,j]
theorem L7 {P:Program}{ops:Array Oper}{Q:Exit→Act→World→Prop}{i:Nat}{rest:List (Nat × Bool)}{a:Act}{w:World}{o:Oper}{c:Call}{x:Operand}{f:FuncId}{first d args:Array Value}{b:Func}
  (n:ops[i]?=some o) (q:Region.wanted o (yielded ops a.tmps)=true) (p:o.op = .call c) (k:c.callee = .value x) (r:a.eval x = .func (.func f) first d)
  (l : P.funcs[f]? = some b) (m : (b.name == "runtime.NumGoroutine") = false) (j : b.body.isNone = false) (g : (first ++ c.args.map a.eval) ++ d = args)
  (h:∀ K:Act→World→Prop,(∀ a w,wpE P ops Q rest a w→K a w)→Calls P f args w fun e w'=>∃ v,e = .returned v∧Gr w w'∧K (a.put o.dst v) w'):wpE P ops Q ((i,false) :: rest) a w:=
 Vk n q (by rw[Rd p k r l m j,g]) h
end Go.Proofs.YtcjgimlcefhhmaaGreatDoor.Stip
