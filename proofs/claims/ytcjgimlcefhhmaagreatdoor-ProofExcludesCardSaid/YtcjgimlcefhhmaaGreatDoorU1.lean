/- Texts: Base PrA PrB PrT. -/
import Derived.WalkKit
import Derived.BigQuiet
import Derived.Deep.QuietTactic
import Derived.Lib.Hide
import Derived.WalkSpells
set_option linter.unusedVariables false
set_option linter.unusedSimpArgs false
set_option maxRecDepth 100000
set_option maxHeartbeats 12800000
namespace Go.Proofs.YtcjgimlcefhhmaaGreatDoor
theorem ξ {p:Prop}(h:p):Go.RowKit.Hid p:=h
end Go.Proofs.YtcjgimlcefhhmaaGreatDoor
namespace Go.Proofs.YtcjgimlcefhhmaaGreatDoor
open Go.RowKit
def Gr (w w':World):Prop:=Below w.heap.size w w'
theorem Gr.refl (w:World):Gr w w:=Below.refl _ _
theorem Gr.trans {a b c:World}(h:Gr a b)(k:Gr b c):Gr a c:=Below.trans h (Below.mono k h.size)
theorem Gr.drewN {a b:World}(h:Gr a b)(n:Nat):Gr a (b.drewN n):=⟨h.os,h.tape,h.output,h.size,h.block⟩
theorem Gr.drew {a b:World}(h:Gr a b):Gr a b.drew:=h.drewN 1
theorem Gr.size {a b:World}(h:Gr a b):a.heap.size≤b.heap.size:=Below.size h
theorem Gr.alloc {a b:World}(h:Gr a b)(o:Obj):Gr a (b.alloc o):=Below.alloc h h.size o
theorem Gr.cell {a b:World}(h:Gr a b){p:Addr}{v:Value}(hc:a.cell? p=some v):b.cell? p=some v:=by
 rw[Below.cell h (World.block_lt_of_cell? a _ hc)];exact hc
def Ret (w:World)(S:Value→World→Prop)(e:Ending)(w':World):Prop:=∃ v,e = .returned v∧Gr w w'∧S v w'
theorem Ret.mk {w w':World}{S:Value→World→Prop}{v:Value}(hg:Gr w w')(hs:S v w'):Ret w S (.returned v) w':=⟨v,rfl,hg,hs⟩
section region
variable {P:Program}{ops:Array Oper}{md:Region.Mode}{Q:Exit→Act→World→Prop}
def isStore (o:Oper):Bool:=match o.op with
 | .store .. | .insert .. | .mapUpdate .. | .entryStore .. => true
 | _=>false
def relOf (o:Oper)(w w':World):Prop:=isStore o=false→Gr w w'
theorem relOf.refl (o:Oper)(w:World):relOf o w w:=fun _=>Gr.refl w
def gOp (P:Program)(ops:Array Oper)(Q:Exit→Act→World→Prop)(i:Nat)(K:Act→World→Prop)(a:Act)(w:World):Prop:=
 wpOp P ops Q i (fun a' w'=>(∀ o,ops[i]?=some o→relOf o w w')∧K a' w') a w
def wpAnyG (P:Program)(md:Region.Mode)(ops:Array Oper)(Q:Exit→Act→World→Prop):Nat→Array Bool→Act→World→Prop
 | 0,listed,a,w=>Region.ready md ops listed=[]∧Q .normal a w
 | fuel+1,listed,a,w=>
  (Region.ready md ops listed=[]→Q .normal a w)∧
  ∀ i ∈ Region.ready md ops listed,gOp P ops Q i (wpAnyG P md ops Q fuel (listed.setIfInBounds i true)) a w
theorem Nt:∀ (fuel:Nat) (listed:Array Bool) (a:Act) (w:World),wpAnyG P md ops Q fuel listed a w→wpAny P md ops Q fuel listed a w
 | 0,_,_,_,h=>h
 | fuel+1,_,_,_,h=>⟨h.1,fun i hi=>wpOp_mono (fun a' w' hk=>Nt fuel _ a' w' hk.2) (h.2 i hi)⟩
def pureOp (o:Oper):Bool:=match o.op with
 | .extract (.tmp _) _=>true
 | _=>false
theorem pureOp.any {P:Program}{ρ:Operand→Value}{o:Oper}(h:pureOp o=true){v:Value}{w:World}(hv:(execOp ρ o).run P w = .ok (.value v) w)(w':World):(execOp ρ o).run P w' = .ok (.value v) w':=by
 unfold pureOp at h
 split at h
 ·rename_i t i he
  unfold execOp at hv ⊢
  simp only[he] at hv ⊢
  unfold Instr.extract at hv ⊢
  split at hv<;>simp_all[go_sem]
  split at hv<;>simp_all[go_sem]
 ·cases h
def Jx (P:Program)(ops:Array Oper)(o:Oper)(v:Value)(a:Act)(w:World):Prop:=
 (Region.wanted o (yielded ops a.tmps)=true∧∀ w',Gr w w'∨pureOp o=true→(execOp a.eval o).run P w' = .ok (.value v) w')∨
 (Region.wanted o (yielded ops a.tmps)=false∧v=undef)
theorem Jx.mk {o:Oper}{v:Value}{a:Act}{w:World}(hw:Region.wanted o (yielded ops a.tmps)=true)(hv:∀ w',Gr w w'→(execOp a.eval o).run P w' = .ok (.value v) w'):Jx P ops o v a w:=
 .inl ⟨hw,fun w' h=>h.elim (hv w') fun h=>pureOp.any h (hv w (Gr.refl w)) w'⟩
theorem Jx.grow {o:Oper}{v:Value}{a:Act}{w w':World}(hy:Jx P ops o v a w)(hg:Gr w w'∨pureOp o=true):Jx P ops o v a w':=by
 rcases hy with⟨h1,h2⟩|h
 ·exact .inl ⟨h1,fun w'' h'=>h2 w'' (h'.elim (fun h'=>hg.imp (fun g=>g.trans h') id) .inr)⟩
 ·exact .inr h
theorem Jx.of_same {o:Oper}{v:Value}{a a':Act}{w:World}(hy:Jx P ops o v a w)(he:execOp a'.eval o=execOp a.eval o)
  (hw:Region.wanted o (yielded ops a'.tmps)=Region.wanted o (yielded ops a.tmps)):Jx P ops o v a' w:=by
 unfold Jx at *
 rw[he,hw]
 exact hy
theorem Jx.gOp {i:Nat}{o:Oper}{v:Value}{a:Act}{w:World}(hi:ops[i]?=some o)(hy:Jx P ops o v a w)
  {K:Act→World→Prop} (h:K (a.put o.dst v) w):gOp P ops Q i K a w:=by
 unfold Proofs.YtcjgimlcefhhmaaGreatDoor.gOp wpOp
 simp only[hi]
 have hr:∀ o_1:Oper,some o=some o_1→relOf o_1 w w:=fun _ _=>relOf.refl _ _
 rcases hy with⟨hw,hv⟩|⟨hw,rfl⟩
 ·simp only[hw,if_true,Oper.wp,hv w (.inl (Gr.refl w)),Oper.upon];exact .inl ⟨hr,h⟩
 ·simp only[hw,Bool.false_eq_true,if_false];exact⟨hr,h⟩
theorem Su {j:Nat}{oi oj:Oper}{v:Value}(hj:ops[j]?=some oj)(hap:oi.apart ops oj=true)(hst:isStore oj=false∨pureOp oi=true)
  (hsi:∀ cs b,oi.op≠.select cs b) (hsj:∀ cs b,oj.op≠.select cs b)
  (hQ:∀ c a d v w,Q (.panic c) (a.put d v) w→Q (.panic c) a w) {K:Act→World→Prop} {a:Act} {w:World}
  (hy:Jx P ops oi v a w) (h:gOp P ops Q j K (a.put oi.dst v) w):
  gOp P ops Q j (fun a' w'=>Jx P ops oi v a' w'∧K (a'.put oi.dst v) w') a w:=by
 obtain⟨h1,h2,h3⟩:=Oper.apart_spec hap
 have keep:∀ (a:Act) (w:World),Jx P ops oi v a w→∀ u,Jx P ops oi v (a.put oj.dst u) w:=fun a w hy u=>
  hy.of_same (execOp_put oi hsi a oj.dst u h3) (wanted_put oi a oj.dst u h3)
 have keepD:∀ d w,Jx P ops oi v a w→Jx P ops oi v { a with defers:=d :: a.defers } w:=fun d w hy=>hy.of_same rfl rfl
 unfold gOp wpOp at *
 simp only[hj] at *
 rw[wanted_put oj a oi.dst v h1] at h
 split
 ·rename_i hw
  simp only[hw,if_true] at h
  rcases h with h|⟨hasks,hlets⟩
  case inr=>exact .inr ⟨by unfold Oper.asks at *;rw[execOp_put oj hsj a oi.dst v h1] at hasks;exact hasks,hlets⟩
  refine .inl ?_
  unfold Oper.wp at *
  rw[execOp_put oj hsj a oi.dst v h1] at h
  generalize (execOp a.eval oj).run P w=r at *
  cases r with
  | ok n w'=>
   cases n<;>simp only[Oper.upon] at h ⊢
   case value u=>exact⟨h.1,keep a w' (hy.grow (hst.imp (h.1 oj rfl) id)) u,by rw[← Act.put_comm a v u h2];exact h.2⟩
   case skip=>exact⟨h.1,keep a w' (hy.grow (hst.imp (h.1 oj rfl) id)) _,by rw[← Act.put_comm a v undef h2];exact h.2⟩
   case defer d=>
    refine⟨h.1,keep _ w' (keepD d w' (hy.grow (hst.imp (h.1 oj rfl) id))) _,?_⟩
    rw[← Act.put_comm _ v undef h2,← Act.put_defers]
    exact h.2
   case enter f args=>
    refine Calls.mono h fun e w'' he=>?_
    cases e with
    | returned u=>exact⟨he.1,keep a w'' (hy.grow (hst.imp (he.1 oj rfl) id)) u,by rw[← Act.put_comm a v u h2];exact he.2⟩
    | panicked c=>exact hQ _ _ _ _ _ he
    | outgrown=>exact he
   case row row args=>exact Rows.mono h fun u w'' he=>⟨he.1,keep a w'' (hy.grow (hst.imp (he.1 oj rfl) id)) u,by rw[← Act.put_comm a v u h2];exact he.2⟩
  | halt x w'=>
   cases x<;>simp only[Oper.upon] at h ⊢
   case panic u=>exact hQ _ _ _ _ _ h
 ·rename_i hw
  simp only[hw] at h
  exact⟨h.1,keep a w (hy) _,by rw[← Act.put_comm a v undef h2];exact h.2⟩
theorem St {i:Nat}{a:Act}{w:World}{K K':Act→World→Prop}(h:∀ a w,K a w→K' a w)
  (hh:gOp P ops Q i K a w):gOp P ops Q i K' a w:=wpOp_mono (fun a w hk=>⟨hk.1,h a w hk.2⟩) hh
def J4 (md:Region.Mode)(ops:Array Oper)(listed:Array Bool):Prop:=
 ∀ j o,ops[j]?=some o→listed.getD j false=true→∀ e ∈ o.after,Region.binds md e=true→listed.getD e.on false=true
theorem J4.set {listed:Array Bool}{i:Nat}(hc:J4 md ops listed)(hr:i ∈ Region.ready md ops listed):J4 md ops (listed.setIfInBounds i true):=by
 intro j o hj hl e he hb
 refine getD_set_true ?_
 obtain⟨_,oi,hoi,hall⟩:=mem_ready.1 hr
 by_cases hji:i=j
 ·subst hji;rw[hj] at hoi;cases hoi;exact hall e he hb
 ·rw[getD_set_ne false hji] at hl;exact hc j o hj hl e he hb
inductive Jw (md:Region.Mode)(ops:Array Oper)(i:Nat):Nat→Prop
 | base {j:Nat} {o:Oper} {e:Edge} (hj:ops[j]?=some o) (he:e ∈ o.after) (hb:Region.binds md e=true) (h:e.on=i):Jw md ops i j
 | step {j:Nat} {o:Oper} {e:Edge} (hj:ops[j]?=some o) (he:e ∈ o.after) (hb:Region.binds md e=true) (h:Jw md ops i e.on):Jw md ops i j
theorem Jw.listed {listed:Array Bool}{i j:Nat}(hc:J4 md ops listed)(h:Jw md ops i j)(hl:listed.getD j false=true):listed.getD i false=true:=by
 induction h with
 | base hj he hb h=>subst h;exact hc _ _ hj hl _ he hb
 | step hj he hb h ih=>exact ih (hc _ _ hj hl _ he hb)
theorem Jw.not_ready {listed:Array Bool}{i j:Nat}(hc:J4 md ops listed)(hi:i ∈ Region.ready md ops listed)(hj:j ∈ Region.ready md ops listed):¬ Jw md ops i j:=by
 intro h
 obtain⟨hu,_⟩:=mem_ready.1 hi
 obtain⟨_,o',hoj,hall⟩:=mem_ready.1 hj
 have key:listed.getD i false=true:=by
  cases h with
  | base hj he hb h=>rw[hj] at hoj;cases hoj;subst h;exact hall _ he hb
  | step hj he hb h=>rw[hj] at hoj;cases hoj;exact h.listed hc (hall _ he hb)
 rcases Nat.lt_or_ge i listed.size with h'|h'
 ·simp[h'] at hu key;rw[hu] at key;cases key
 ·simp[Array.getElem?_eq_none h'] at hu
theorem L8 {i:Nat}{oi:Oper}{v:Value}(hi:ops[i]?=some oi)(hsel:∀ (j:Nat) (o:Oper) cs b,ops[j]?=some o→o.op≠.select cs b)
  (hQ:∀ c a d v w,Q (.panic c) (a.put d v) w→Q (.panic c) a w):
  ∀ (fuel:Nat) (listed:Array Bool) (a:Act) (w:World),J4 md ops listed→
   (∀ j oj,ops[j]?=some oj→j≠i→listed.getD j true=false→¬ Jw md ops i j→oi.apart ops oj=true∧(isStore oj=false∨pureOp oi=true))→
   i ∈ Region.ready md ops listed→Jx P ops oi v a w→
   wpAnyG P md ops Q fuel (listed.setIfInBounds i true) (a.put oi.dst v) w→wpAnyG P md ops Q (fuel+1) listed a w:=by
 intro fuel
 induction fuel with
 | zero=>
  intro listed a w _ _ hr hy H
  refine⟨fun h=>(by rw[h] at hr;cases hr),fun j hj=>?_⟩
  by_cases hji:j=i
  ·subst hji;exact hy.gOp hi H
  ·have:=ready_mono hj hji
   rw[H.1] at this
   cases this
 | succ fuel ih=>
  intro listed a w hc hfree hr hy H
  refine⟨fun h=>(by rw[h] at hr;cases hr),fun j hj=>?_⟩
  by_cases hji:j=i
  ·subst hji;exact hy.gOp hi H
  ·have h1:=H.2 j (ready_mono hj hji)
   obtain⟨hjun,oj,hoj,hall⟩:=mem_ready.1 hj
   obtain⟨hap,hst⟩:=hfree j oj hoj hji hjun (Jw.not_ready hc hr hj)
   have h2:=Su hoj hap hst (fun cs b=>hsel i oi cs b hi) (fun cs b=>hsel j oj cs b hoj) hQ hy h1
   have hfree':∀ k ok,ops[k]?=some ok→k≠i→(listed.setIfInBounds j true).getD k true=false→
     ¬ Jw md ops i k→oi.apart ops ok=true∧(isStore ok=false∨pureOp oi=true):=fun k ok hk hki hun hno=>by
    refine hfree k ok hk hki ?_ hno
    by_cases hjk:j=k
    ·subst hjk;exact hjun
    ·rw[getD_set_ne true hjk] at hun;exact hun
   refine St (fun a' w' h3=>ih (listed.setIfInBounds j true) a' w' (hc.set hj) hfree' (ready_mono hr (Ne.symm hji)) h3.1 ?_) h2
   rw[Array.setIfInBounds_comm _ _ hji]
   exact h3.2
def wpE (P:Program)(ops:Array Oper)(Q:Exit→Act→World→Prop):List (Nat × Bool)→Act→World→Prop
 | [],a,w=>Q .normal a w
 | (i,r) :: rest,a,w=>∃ o,ops[i]?=some o∧
   if Region.wanted o (yielded ops a.tmps)=true then
    (if r=true then ∃ v,(∀ w',Gr w w'→(execOp a.eval o).run P w' = .ok (.value v) w')∧wpE P ops Q rest (a.put o.dst v) w
     else Oper.wp P o a w (fun a' w'=>relOf o w w'∧wpE P ops Q rest a' w') Q)
   else wpE P ops Q rest (a.put o.dst undef) w
def waitsGo (md:Region.Mode)(i:Nat):List Oper→Array Bool→Array Bool
 | [],acc=>acc
 | o :: l,acc=>waitsGo md i l (acc.push (o.after.any fun e=>Region.binds md e && (e.on == i || acc.getD e.on false)))
theorem O0 {i:Nat}:∀ (l:List Oper) (acc:Array Bool),(∀ j,l[j]?=ops[acc.size+j]?)→(∀ j,acc.getD j false=true→Jw md ops i j)→
  ∀ j,(waitsGo md i l acc).getD j false=true→Jw md ops i j
 | [],_,_,hacc=>hacc
 | o :: l,acc,hl,hacc=>by
  refine O0 l _ (fun j=>?_) (fun j hj=>?_)
  ·have:=hl (j+1)
   simpa[Nat.add_assoc,Nat.add_comm 1 j] using this
  ·by_cases h:j=acc.size
   ·subst h
    simp only[Array.getD_eq_getD_getElem?,Array.getElem?_push_size,Option.getD_some] at hj
    obtain⟨e,he,hb⟩:=Array.any_eq_true'.1 hj
    simp only[Bool.and_eq_true,Bool.or_eq_true,beq_iff_eq] at hb
    have h0:ops[acc.size]?=some o:=by simpa using(hl 0).symm
    rcases hb.2 with h|h
    ·exact .base h0 he hb.1 h
    ·exact .step h0 he hb.1 (hacc _ (by simpa[Array.getD_eq_getD_getElem?] using h))
   ·refine hacc j ?_
    simpa[Array.getD_eq_getD_getElem?,Array.getElem?_push,h] using hj
def freeG (md:Region.Mode)(ops:Array Oper)(listed:Array Bool)(i:Nat):Bool:=
 match ops[i]? with
 | none=>false
 | some oi=>
  (List.range ops.size).all fun j=>j == i || listed.getD j true || match ops[j]? with
   | some oj=>(oi.apart ops oj && (!isStore oj || pureOp oi)) || (waitsGo md i ops.toList #[]).getD j false
   | none=>true
theorem N6 {i:Nat}{oi:Oper}{listed:Array Bool}(hi:ops[i]?=some oi)(h:freeG md ops listed i=true)(j:Nat)(oj:Oper)
  (hj:ops[j]?=some oj) (hne:j≠i) (hun:listed.getD j true=false) (hno:¬ Jw md ops i j):
  oi.apart ops oj=true∧(isStore oj=false∨pureOp oi=true):=by
 simp only[freeG,hi,List.all_eq_true,List.mem_range] at h
 have h1:=h j (Array.getElem?_eq_some_iff.1 hj).1
 simp only[hj,Bool.or_eq_true,beq_iff_eq,hne,false_or,hun,Bool.false_eq_true] at h1
 rcases h1 with h1|h1
 ·simpa using h1
 ·exact absurd (O0 (md:=md) (ops:=ops) (i:=i) ops.toList #[] (by simp) (by simp) j h1) hno
def eagerB (md:Region.Mode)(ops:Array Oper):List (Nat × Bool)→Array Bool→Bool
 | [],listed=>(Region.ready md ops listed).isEmpty
 | (i,r) :: rest,listed=>(if r then (Region.ready md ops listed).contains i && freeG md ops listed i else Region.ready md ops listed == [i]) && eagerB md ops rest (listed.setIfInBounds i true)
theorem L6 (hs:Region.noSelect ops=true)(hQ:∀ c a d v w,Q (.panic c) (a.put d v) w→Q (.panic c) a w):
  ∀ (l:List (Nat × Bool)) (listed:Array Bool) (a:Act) (w:World),J4 md ops listed→eagerB md ops l listed=true→wpE P ops Q l a w→wpAnyG P md ops Q l.length listed a w
 | [],listed,a,w,_,hB,h=>⟨by simpa[eagerB] using hB,h⟩
 | (i,true) :: l,listed,a,w,hc,hB,h=>by
  simp only[eagerB,if_true,Bool.and_eq_true] at hB
  obtain⟨⟨hr,hf⟩,hB'⟩:=hB
  obtain⟨o,ho,h⟩:=h
  have hr':i ∈ Region.ready md ops listed:=by simpa using hr
  by_cases hw:Region.wanted o (yielded ops a.tmps)=true
  ·rw[if_pos hw,if_pos rfl] at h
   obtain⟨v,hv,h⟩:=h
   exact L8 ho (Region.noSelect_spec hs) hQ l.length listed a w hc (N6 ho hf) hr' (.mk hw hv) (L6 hs hQ l _ _ _ (hc.set hr') hB' h)
  ·rw[if_neg hw] at h
   exact L8 ho (Region.noSelect_spec hs) hQ l.length listed a w hc (N6 ho hf) hr' (.inr ⟨by simpa using hw,rfl⟩) (L6 hs hQ l _ _ _ (hc.set hr') hB' h)
 | (i,false) :: l,listed,a,w,hc,hB,h=>by
  simp only[eagerB,Bool.false_eq_true,if_false,Bool.and_eq_true,beq_iff_eq] at hB
  obtain⟨hr,hB'⟩:=hB
  obtain⟨o,ho,h⟩:=h
  refine⟨fun h0=>(by rw[hr] at h0;cases h0),fun j hj=>?_⟩
  rw[hr,List.mem_singleton] at hj
  subst hj
  have hc':J4 md ops (listed.setIfInBounds j true):=hc.set (by rw[hr];simp)
  unfold gOp wpOp
  simp only[ho]
  by_cases hw:Region.wanted o (yielded ops a.tmps)=true
  ·rw[if_pos hw,if_neg (by simp)] at h
   rw[if_pos hw]
   refine .inl (Oper.wp_mono (fun a' w' hk=>⟨fun o' ho'=>?_,L6 hs hQ l _ _ _ hc' hB' hk.2⟩) h)
   cases ho';exact hk.1
  ·rw[if_neg hw] at h
   rw[if_neg hw]
   exact⟨fun _ _=>relOf.refl _ _,L6 hs hQ l _ _ _ hc' hB' h⟩
theorem Ll {id:Nat}{a:Act}{w:World}(order:List (Nat × Bool))(hm:P.follows .mixedOrders=true)(hs:Region.noSelect ops=true)
  (hn:order.length=ops.size) (hB:eagerB .any ops order (Array.replicate ops.size false)=true) (hQ:∀ c a d v w,Q (.panic c) (a.put d v) w→Q (.panic c) a w)
  (h:wpE P ops Q order a w.drew):(Code.region id ops true).wp P Q a w:=by
 refine wp_region_any hm (Nt _ _ _ _ ?_)
 have:=L6 (md:=.any) hs hQ order (Array.replicate ops.size false) a w.drew (fun j o _ hl=>by simp[Array.getElem?_replicate] at hl;split at hl<;>simp at hl) hB h
 rw[hn] at this
 exact this
end region
section steps
variable {P:Program}{ops:Array Oper}{Q:Exit→Act→World→Prop}{i:Nat}{rest:List (Nat × Bool)}{a:Act}{w:World}{o:Oper}
theorem Ji (h:Q .normal a w):wpE P ops Q [] a w:=h
theorem Uv (ho:ops[i]?=some o)(hw:Region.wanted o (yielded ops a.tmps)=true)
  (h:∀ K:Act→World→Prop,(∀ a w,wpE P ops Q rest a w→K a w)→∃ v,(∀ w',Gr w w'→(execOp a.eval o).run P w' = .ok (.value v) w')∧K (a.put o.dst v) w):wpE P ops Q ((i,true) :: rest) a w:=
 ⟨o,ho,by rw[if_pos hw,if_pos rfl];exact h _ (fun _ _ h=>h)⟩
theorem Jf {wb:World}(hb:Gr wb w)(ho:ops[i]?=some o)(hw:Region.wanted o (yielded ops a.tmps)=true){v:Value}(hv:∀ w',Gr wb w'→(execOp a.eval o).run P w' = .ok (.value v) w')
  (h:∀ K:Act→World→Prop,(∀ a w,wpE P ops Q rest a w→K a w)→K (a.put o.dst v) w):wpE P ops Q ((i,true) :: rest) a w:=
 ⟨o,ho,by rw[if_pos hw,if_pos rfl];exact⟨v,fun w' hg=>hv w' (hb.trans hg),h _ (fun _ _ h=>h)⟩⟩
theorem Jj (ho:ops[i]?=some o)(hw:Region.wanted o (yielded ops a.tmps)=true)
  (h:∀ K:Act→World→Prop,(∀ a w,wpE P ops Q rest a w→K a w)→Oper.wp P o a w (fun a' w'=>relOf o w w'∧K a' w') Q):wpE P ops Q ((i,false) :: rest) a w:=
 ⟨o,ho,by rw[if_pos hw,if_neg (by simp)];exact h _ (fun _ _ h=>h)⟩
theorem Ka {r:Bool}(ho:ops[i]?=some o)(hw:Region.wanted o (yielded ops a.tmps)=false)(h:wpE P ops Q rest (a.put o.dst undef) w):wpE P ops Q ((i,r) :: rest) a w:=
 ⟨o,ho,by rw[if_neg (by simp[hw])];exact h⟩
end steps
end Go.Proofs.YtcjgimlcefhhmaaGreatDoor
namespace Go.Proofs.YtcjgimlcefhhmaaGreatDoor
namespace Prf
structure Jg where
 v:Int
 c:Int
structure RowS where
 name:List UInt8
 group:Int
 kind:Int
 terms:List Jg
 bound:Int
structure VarM where
 lo:Int
 up:Int
 op:Bool
 ig:Bool
 cost:Int
structure Prg where
 vars:List VarM
 rows:List RowS
structure CutS where
 kind:Int
 mult:List Rat
 row:Int
 vars:List Int
structure Jh where
 kind:Int
 mult:List Rat
 var:Int
 pos:Int
 cut:CutS
def sumQ (f:Nat→Rat):Nat→Rat
 | 0=>0
 | k+1=>sumQ f k+f k
theorem Kq (f:Nat→Rat)(n:Nat):sumQ f (n+1)=sumQ f n+f n:=rfl
theorem P1 {f g:Nat→Rat}:∀ {n:Nat},(∀ k,k < n→f k=g k)→sumQ f n=sumQ g n
 | 0,_=>rfl
 | n+1,h=>by
  simp only[Kq]
  rw[P1 (fun k hk=>h k (by omega)),h n (by omega)]
theorem Ra {f g:Nat→Rat}:∀ {n:Nat},(∀ k,k < n→f k≤g k)→sumQ f n≤sumQ g n
 | 0,_=>Rat.le_refl
 | n+1,h=>by
  simp only[Kq]
  have h1:=Ra (n:=n) (fun k hk=>h k (by omega))
  have h2:=h n (by omega)
  grind
theorem P0 (f g:Nat→Rat):∀ n,sumQ (fun k=>f k+g k) n=sumQ f n+sumQ g n
 | 0=>by show(0:Rat)=0+0;grind
 | n+1=>by
  simp only[Kq]
  rw[P0 f g n]
  grind
theorem Rb (f:Nat→Rat)(c:Rat):∀ n,sumQ (fun k=>f k * c) n=sumQ f n * c
 | 0=>by simp[sumQ]
 | n+1=>by
  simp only[Kq]
  rw[Rb f c n]
  grind
theorem Uh (f:Nat→Rat):∀ n,sumQ (fun k => - f k) n = - sumQ f n
 | 0=>by simp[sumQ]
 | n+1=>by
  simp only[Kq]
  rw[Uh f n]
  grind
theorem Ui:∀ n,sumQ (fun _=>0) n=0
 | 0=>rfl
 | n+1=>by
  simp only[Kq]
  rw[Ui n]
  grind
theorem J0J (f:Nat→Nat→Rat)(m:Nat):∀ n,sumQ (fun i=>sumQ (fun j=>f i j) m) n=sumQ (fun j=>sumQ (fun i=>f i j) n) m
 | 0=>by
  have:=Ui m
  simpa[sumQ] using this.symm
 | n+1=>by
  simp only[Kq]
  rw[J0J f m n,← P0]
theorem J0I (k:Nat)(c:Rat):∀ n,sumQ (fun j=>if j=k then c else 0) n=if k < n then c else 0
 | 0=>by simp[sumQ]
 | n+1=>by
  simp only[Kq]
  rw[J0I k c n]
  by_cases h:k < n
  ·rw[if_pos h,if_neg (by omega),if_pos (by omega)];grind
  ·by_cases h2:n=k
   ·subst h2;rw[if_neg h,if_pos rfl,if_pos (by omega)];grind
   ·rw[if_neg h,if_neg h2,if_neg (by omega)];grind
def atQ (y:List Rat)(i:Nat):Rat:=(y[i]?).getD 0
def rowCoef (l:List Jg)(j:Nat):Int:=(l.map fun t=>if t.v=(j:Int) then t.c else 0).sum
def cA (p:Prg)(y:List Rat)(j i:Nat):Rat:=match p.rows[i]? with
 | some r=>(rowCoef r.terms j:Rat) * atQ y i
 | none=>0
def cB (p:Prg)(y:List Rat)(i:Nat):Rat:=match p.rows[i]? with
 | some r=>(r.bound:Rat) * atQ y i
 | none=>0
def combA (p:Prg)(y:List Rat)(j:Nat):Rat:=sumQ (cA p y j) p.rows.length
def combB (p:Prg)(y:List Rat):Rat:=sumQ (cB p y) p.rows.length
def lTerm (vs:List VarM)(a:Nat→Rat)(j:Nat):Rat:=match vs[j]? with
 | some v=>(((if a j < 0 then v.up else v.lo):Int):Rat) * a j
 | none=>0
def leastS (vs:List VarM)(a:Nat→Rat):Rat:=sumQ (lTerm vs a) vs.length
def Mb (vs:List VarM):Prop:=∃ v ∈ vs,v.up < v.lo
def Pc (k:Int)(x:Rat):Prop:=¬ (k=1∧x < 0)∧¬ (k=0∧0 < x)
def M9 (p:Prg)(y:List Rat):Prop:=∀ i r,p.rows[i]?=some r→Pc r.kind (atQ y i)
def Ms (p:Prg)(y:List Rat):Prop:=M9 p y∧(Mb p.vars∨0 < combB p y+leastS p.vars (fun j => - combA p y j))
def In (n:Int):Prop:=-1099511627776≤n∧n≤1099511627776
def Lz (v:VarM):Prop:=In v.lo∧In v.up∧In v.cost∧¬ (v.op=true∧v.up≠0)
def Inc (n:Nat):Int→List Jg→Prop
 | _,[]=>True
 | last,t :: l=>(last < t.v∧t.v < (n:Int)∧t.c≠0∧In t.c)∧Inc n t.v l
def Kb (n:Nat)(r:RowS):Prop:=(0≤r.kind∧r.kind≤2)∧(0≤r.group∧r.group≤60)∧r.name.length≤80∧In r.bound∧(∀ b ∈ r.name,32≤b∧b≤126)∧Inc n (-1) r.terms
def Jr (p:Prg):Prop:=p.vars.length≤400∧p.rows.length≤4000∧(∀ v ∈ p.vars,Lz v)∧∀ r ∈ p.rows,Kb p.vars.length r
def Whole (p:Prg):Prop:=∀ v ∈ p.vars,v.ig=true∧v.op=false
def setLow (vs:List VarM)(j:Int):List VarM:=vs.mapIdx fun i v=>if (i:Int)=j then { v with lo:=1 } else v
def lowAll (vs:List VarM)(l:List Int):List VarM:=l.foldl setLow vs
def sgnR (r:RowS):Int:=if r.kind=1 then -1 else 1
def Mp (vs:List VarM)(r:RowS)(l:List Int):Prop:=¬ Mb (lowAll vs l)∧((sgnR r * r.bound:Int):Rat) < leastS (lowAll vs l) (fun j=>((sgnR r * rowCoef r.terms j:Int):Rat))
def Kw (p:Prg)(v:Int):Prop:=∃ x,0≤v∧p.vars[v.toNat]?=some x∧x.ig=true∧x.op=false∧x.lo=0∧x.up=1
def IncI:Int→List Int→Prop
 | _,[]=>True
 | last,v :: l=>last < v∧IncI v l
def Ln (p:Prg)(c:CutS):Prop:=(c.kind=0∧c.row=0∧c.vars=[]∧c.mult.length≤p.rows.length)∨
 (c.kind=1∧c.mult=[]∧0≤c.row∧c.row < (p.rows.length:Int)∧c.vars≠[]∧IncI (-1) c.vars∧∀ v ∈ c.vars,Kw p v)
def ceilQ (x:Rat):Int:=-(-x).floor
def loT (vs:List VarM)(a:Nat→Rat)(j:Nat):Rat:=match vs[j]? with
 | some v=>a j * (v.lo:Rat)
 | none=>0
def cutTerms (a:Nat→Rat):Nat→List Jg
 | 0=>[]
 | k+1=>cutTerms a k ++ (if ceilQ (a k)=0 then [] else [⟨(k:Int),ceilQ (a k)⟩])
def cutBound (p:Prg)(y:List Rat):Int:=
 ceilQ (combB p y - sumQ (loT p.vars (combA p y)) p.vars.length)+(sumQ (loT p.vars (fun j=>((ceilQ (combA p y j):Int):Rat))) p.vars.length).floor
def cutName:List UInt8:=[99,117,116]
def Oi (p:Prg)(y:List Rat):Prop:=M9 p y∧(∀ j,j < p.vars.length→In (ceilQ (combA p y j)))∧In (cutBound p y)
def roundRow (p:Prg)(y:List Rat):RowS:=⟨cutName,0,1,cutTerms (combA p y) p.vars.length,cutBound p y⟩
def coverRow (l:List Int):RowS:=⟨cutName,0,0,l.map fun v=>⟨v,1⟩,(l.length:Int) - 1⟩
def Kz (p:Prg)(c:CutS)(r:RowS):Prop:=Ln p c∧
 ((c.kind=0∧Oi p c.mult∧r=roundRow p c.mult)∨(c.kind=1∧(∃ x,p.rows[c.row.toNat]?=some x∧Mp p.vars x c.vars)∧r=coverRow c.vars))
theorem V3 {p:Prg}{c:CutS}{r s:RowS}(h:Kz p c r)(k:Kz p c s):r=s:=by
 rcases h.2 with⟨h1,_,h2⟩|⟨h1,_,h2⟩<;>rcases k.2 with⟨k1,_,k2⟩|⟨k1,_,k2⟩
 ·rw[h2,k2]
 ·omega
 ·omega
 ·rw[h2,k2]
def addRow (p:Prg)(r:RowS):Prg:=⟨p.vars,p.rows ++ [r]⟩
def setUp (vs:List VarM)(j:Int)(m:Int):List VarM:=vs.mapIdx fun i v=>if (i:Int)=j then { v with up:=min v.up m } else v
def setLo (vs:List VarM)(j:Int)(m:Int):List VarM:=vs.mapIdx fun i v=>if (i:Int)=j then { v with lo:=max v.lo m } else v
def Kh (c:CutS):Prop:=c.kind=0∧c.mult=[]∧c.row=0∧c.vars=[]
def lowPart (p:Prg)(v m:Int):Prg:=⟨setUp p.vars v m,p.rows⟩
def highPart (p:Prg)(v m:Int):Prg:=⟨setLo p.vars v (m+1),p.rows⟩
inductive Jn:Prg→List Jh→List Jh→Prop
 | farkas {p:Prg} {n:Jh} {t:List Jh} (h0:n.kind=0) (h1:Kh n.cut∧n.var=0∧n.pos=0) (h2:n.mult.length≤p.rows.length) (h3:Ms p n.mult):Jn p (n :: t) t
 | empty {p:Prg} {n:Jh} {t:List Jh} {v:VarM} (h0:n.kind=1) (h1:Kh n.cut∧n.mult=[]∧n.pos=0) (h2:0≤n.var) (h3:p.vars[n.var.toNat]?=some v) (h4:v.up < v.lo):Jn p (n :: t) t
 | split {p:Prg} {n:Jh} {t r s:List Jh} (h0:n.kind=2) (h1:Kh n.cut∧n.mult=[]) (h2:0≤n.var∧n.var < (p.vars.length:Int)) (h3 : -1099511627776≤n.pos∧n.pos < 1099511627776)
   (h4:Jn (lowPart p n.var n.pos) t r) (h5:Jn (highPart p n.var n.pos) r s):Jn p (n :: t) s
 | cut {p:Prg} {n:Jh} {t s:List Jh} {r:RowS} (h0:n.kind=3) (h1:n.mult=[]∧n.var=0∧n.pos=0) (h2:Kz p n.cut r) (h4:Jn (addRow p r) t s):Jn p (n :: t) s
theorem Tp {p:Prg}{t r:List Jh}(h:Jn p t r):∀ {s:List Jh},Jn p t s→r=s:=by
 induction h with
 | farkas h0 _ _ _=>intro s k;cases k<;>first|rfl|omega
 | empty h0 _ _ _ _=>intro s k;cases k<;>first|rfl|omega
 | split h0 _ _ _ _ _ i4 i5=>
  intro s k
  cases k with
  | split _ _ _ _ k4 k5=>cases i4 k4;exact i5 k5
  | _=>omega
 | cut h0 _ h2 _ i4=>
  intro s k
  cases k with
  | cut _ _ k2 k4=>cases V3 h2 k2;exact i4 k4
  | _=>omega
theorem Z7 {p:Prg}{t r:List Jh}(h:Jn p t r):∃ u,u≠[]∧t=u ++ r∧∀ s,Jn p (u ++ s) s:=by
 induction h with
 | @farkas p n t h0 h1 h2 h3=>exact⟨[n],by simp,rfl,fun s => .farkas h0 h1 h2 h3⟩
 | @empty p n t v h0 h1 h2 h3 h4=>exact⟨[n],by simp,rfl,fun s => .empty h0 h1 h2 h3 h4⟩
 | @split p n t r s h0 h1 h2 h3 h4 h5 i4 i5=>
  obtain⟨u,_,rfl,hu⟩:=i4
  obtain⟨u',_,rfl,hu'⟩:=i5
  exact⟨n :: (u ++ u'),by simp,by simp,fun s=>by
   simp only[List.cons_append,List.append_assoc]
   exact .split h0 h1 h2 h3 (hu _) (hu' s)⟩
 | @cut p n t s r h0 h1 h2 h4 i4=>
  obtain⟨u,_,rfl,hu⟩:=i4
  exact⟨n :: u,by simp,by simp,fun s => .cut h0 h1 h2 (hu s)⟩
theorem J53 {p:Prg}{t:List Jh}{k:Nat}(h:Jn p t [])(hk:k < t.length):¬ Jn p (t.take k) []:=fun h'=>by
 obtain⟨u,_,hu,hl⟩:=Z7 h'
 have h2:=hl (t.drop k)
 rw[List.append_nil] at hu
 rw[← hu,List.take_append_drop] at h2
 have:=congrArg List.length (Tp h h2)
 simp at this
 omega
def dotZ (l:List Jg)(X:Nat→Int):Int:=(l.map fun t=>t.c * X t.v.toNat).sum
def Sat (r:RowS)(X:Nat→Int):Prop:=(r.kind=0→dotZ r.terms X≤r.bound)∧(r.kind=1→r.bound≤dotZ r.terms X)∧(r.kind≠0→r.kind≠1→dotZ r.terms X=r.bound)
def InB (vs:List VarM)(X:Nat→Int):Prop:=∀ j v,vs[j]?=some v→v.lo≤X j∧X j≤v.up
def Sol (p:Prg)(X:Nat→Int):Prop:=InB p.vars X∧∀ r ∈ p.rows,Sat r X
def TIn (n:Nat)(r:RowS):Prop:=∀ t ∈ r.terms,0≤t.v∧t.v < (n:Int)
theorem Nh {n:Nat}:∀ {l:List Jg} {last:Int},-1≤last→Inc n last l→∀ t ∈ l,0≤t.v∧t.v < (n:Int)
 | [],_,_,_,t,ht=>by cases ht
 | x :: l,last,hl,h,t,ht=>by
  obtain⟨h1,h2⟩:=h
  rcases List.mem_cons.1 ht with rfl|ht
  ·exact⟨by omega,h1.2.1⟩
  ·exact Nh (by omega) h2 t ht
theorem Kb.tin {n:Nat}{r:RowS}(h:Kb n r):TIn n r:=Nh (Int.le_refl _) h.2.2.2.2.2
theorem J0n (t:Jg)(l:List Jg)(j:Nat):rowCoef (t :: l) j=(if t.v=(j:Int) then t.c else 0)+rowCoef l j:=by simp[rowCoef]
theorem Ty (X:Nat→Int)(n:Nat):∀ (l:List Jg),(∀ t ∈ l,0≤t.v∧t.v < (n:Int))→sumQ (fun j=>(rowCoef l j:Rat) * (X j:Rat)) n=(dotZ l X:Rat)
 | [],_=>by
  have:(fun j=>(rowCoef ([]:List Jg) j:Rat) * (X j:Rat))=fun _=>0:=by funext j;simp[rowCoef]
  rw[this,Ui];simp[dotZ]
 | t :: l,h=>by
  have ih:=Ty X n l (fun t ht=>h t (List.mem_cons_of_mem _ ht))
  obtain⟨h1,h2⟩:=h t (List.mem_cons_self ..)
  have e:(fun j=>(rowCoef (t :: l) j:Rat) * (X j:Rat))=fun j=>(if j=t.v.toNat then ((t.c * X t.v.toNat:Int):Rat) else 0)+(rowCoef l j:Rat) * (X j:Rat):=by
   funext j
   rw[J0n]
   by_cases hj:j=t.v.toNat
   ·subst hj
    rw[if_pos rfl,if_pos (by omega),Rat.intCast_add,Rat.intCast_mul];grind
   ·rw[if_neg hj,if_neg (by omega)];simp;grind
  rw[e,P0,ih,J0I,if_pos (by omega)]
  simp only[dotZ,List.map_cons,List.sum_cons]
  rw[Rat.intCast_add]
theorem Q6 {p:Prg}{i:Nat}(h:i < p.rows.length):∃ r,p.rows[i]?=some r∧r ∈ p.rows:=⟨_,List.getElem?_eq_getElem h,List.getElem_mem h⟩
theorem Ut {vs:List VarM}{i:Nat}(h:i < vs.length):∃ r,vs[i]?=some r∧r ∈ vs:=⟨_,List.getElem?_eq_getElem h,List.getElem_mem h⟩
theorem Vt {p:Prg}{y:List Rat}{X:Nat→Int}(ht:∀ r ∈ p.rows,TIn p.vars.length r)(hs:M9 p y)(hx:∀ r ∈ p.rows,Sat r X):
  combB p y≤sumQ (fun j=>combA p y j * (X j:Rat)) p.vars.length:=by
 have e:sumQ (fun j=>combA p y j * (X j:Rat)) p.vars.length=sumQ (fun i=>match p.rows[i]? with|some r=>(dotZ r.terms X:Rat) * atQ y i|none=>0) p.rows.length:=by
  have e1:(fun j=>combA p y j * (X j:Rat))=fun j=>sumQ (fun i=>cA p y j i * (X j:Rat)) p.rows.length:=by
   funext j;rw[Rb];rfl
  rw[e1,← J0J]
  refine P1 fun i hi=>?_
  obtain⟨r,hr,hm⟩:=Q6 hi
  unfold cA
  simp only[hr]
  rw[show(fun j=>(rowCoef r.terms j:Rat) * atQ y i * (X j:Rat))=fun j=>(rowCoef r.terms j:Rat) * (X j:Rat) * atQ y i from by funext j;grind,Rb,Ty X _ _ (ht r hm)]
 rw[e]
 refine Ra fun i hi=>?_
 obtain⟨r,hr,hm⟩:=Q6 hi
 unfold cB
 simp only[hr]
 obtain⟨s1,s2⟩:=hs i r hr
 obtain⟨k0,k1,k2⟩:=hx r hm
 by_cases h0:r.kind=0
 ·have h1:(dotZ r.terms X:Rat)≤(r.bound:Rat):=Rat.intCast_le_intCast.2 (k0 h0)
  have h2:atQ y i≤0:=by
   rcases Rat.le_total (a:=atQ y i) (b:=0) with h|h
   ·exact h
   ·by_cases h3:0 < atQ y i
    ·exact absurd ⟨h0,h3⟩ s2
    ·grind
  have:=Rat.mul_nonneg (a:=(r.bound:Rat) - (dotZ r.terms X:Rat)) (b:=- atQ y i) (by grind) (by grind)
  grind
 ·by_cases h1:r.kind=1
  ·have h2:(r.bound:Rat)≤(dotZ r.terms X:Rat):=Rat.intCast_le_intCast.2 (k1 h1)
   have h3:0≤atQ y i:=by
    by_cases h3:atQ y i < 0
    ·exact absurd ⟨h1,h3⟩ s1
    ·grind
   have:=Rat.mul_nonneg (a:=(dotZ r.terms X:Rat) - (r.bound:Rat)) (b:=atQ y i) (by grind) h3
   grind
  ·rw[k2 h0 h1];exact Rat.le_refl
theorem Yo {vs:List VarM}{a:Nat→Rat}{X:Nat→Int}(hb:InB vs X):leastS vs a≤sumQ (fun j=>a j * (X j:Rat)) vs.length:=by
 refine Ra fun j hj=>?_
 obtain⟨v,hv,_⟩:=Ut hj
 unfold lTerm
 simp only[hv]
 obtain⟨h1,h2⟩:=hb j v hv
 have h1':(v.lo:Rat)≤(X j:Rat):=Rat.intCast_le_intCast.2 h1
 have h2':(X j:Rat)≤(v.up:Rat):=Rat.intCast_le_intCast.2 h2
 by_cases h:a j < 0
 ·rw[if_pos h]
  have:=Rat.mul_nonneg (a:=(v.up:Rat) - (X j:Rat)) (b:=- a j) (by grind) (by grind)
  grind
 ·rw[if_neg h]
  have:=Rat.mul_nonneg (a:=(X j:Rat) - (v.lo:Rat)) (b:=a j) (by grind) (by grind)
  grind
theorem J4d {vs:List VarM}{X:Nat→Int}(hb:InB vs X):¬ Mb vs:=fun⟨v,hv,h⟩=>by
 obtain⟨i,hi,rfl⟩:=List.getElem_of_mem hv
 have:=hb i _ (List.getElem?_eq_getElem hi)
 omega
theorem J3h {p:Prg}{y:List Rat}{X:Nat→Int}(ht:∀ r ∈ p.rows,TIn p.vars.length r)(h:Ms p y):¬ Sol p X:=fun⟨hb,hr⟩=>by
 obtain⟨hs,h|h⟩:=h
 ·exact J4d hb h
 ·have h1:=Vt ht hs hr
  have h2:=Yo (a:=fun j => - combA p y j) hb
  have e:sumQ (fun j => - combA p y j * (X j:Rat)) p.vars.length = - sumQ (fun j=>combA p y j * (X j:Rat)) p.vars.length:=by
   rw[← Uh]
   exact P1 fun k _=>by grind
  rw[e] at h2
  grind
theorem J1Q (x:Rat):x≤(ceilQ x:Rat):=by
 unfold ceilQ
 have:=Rat.floor_le (-x)
 rw[Rat.intCast_neg]
 grind
theorem J1R {x:Rat}{z:Int}(h:x≤(z:Rat)):ceilQ x≤z:=by
 unfold ceilQ
 have h1:((-z:Int):Rat)≤-x:=by rw[Rat.intCast_neg];grind
 have:=Rat.le_floor_iff.2 h1
 omega
theorem Ph (a:Nat→Rat)(k:Nat):cutTerms a (k+1)=cutTerms a k ++ (if ceilQ (a k)=0 then [] else [⟨(k:Int),ceilQ (a k)⟩]):=rfl
theorem Vw (a:Nat→Rat)(X:Nat→Int):∀ k,(dotZ (cutTerms a k) X:Rat)=sumQ (fun j=>(ceilQ (a j):Rat) * (X j:Rat)) k
 | 0=>by simp[cutTerms,dotZ,sumQ]
 | k+1=>by
  rw[Kq,← Vw a X k,Ph]
  by_cases h:ceilQ (a k)=0
  ·rw[if_pos h,h];simp;grind
  ·rw[if_neg h]
   simp only[dotZ,List.map_append,List.sum_append,List.map_cons,List.map_nil,List.sum_cons,List.sum_nil,Int.toNat_natCast,Int.add_zero]
   rw[Rat.intCast_add,Rat.intCast_mul]
theorem Yr (vs:List VarM)(u:Nat→Int):∀ k,∃ z:Int,sumQ (loT vs (fun j=>(u j:Rat))) k=(z:Rat)
 | 0=>⟨0,rfl⟩
 | k+1=>by
  obtain⟨z,hz⟩:=Yr vs u k
  rw[Kq,hz]
  unfold loT
  cases vs[k]? with
  | none=>exact⟨z,by simp only[];grind⟩
  | some v=>exact⟨z+u k * v.lo,by simp only[];rw[Rat.intCast_add,Rat.intCast_mul]⟩
theorem J5K {p:Prg}{y:List Rat}{X:Nat→Int}(ht:∀ r ∈ p.rows,TIn p.vars.length r)(h:M9 p y)(hs:Sol p X):Sat (roundRow p y) X:=by
 have h1:=Vt ht h hs.2
 refine⟨(fun h=>absurd (show(1:Int)=0 from h) (by decide)),fun _=>?_,fun _ h=>absurd rfl h⟩
 show cutBound p y≤dotZ (cutTerms (combA p y) p.vars.length) X
 unfold cutBound
 obtain⟨z,hz⟩:=Yr p.vars (fun j=>ceilQ (combA p y j)) p.vars.length
 rw[hz,Rat.floor_intCast]
 suffices hc:ceilQ (combB p y - sumQ (loT p.vars (combA p y)) p.vars.length)≤dotZ (cutTerms (combA p y) p.vars.length) X - z by omega
 refine J1R ?_
 rw[Rat.intCast_sub,Vw,← hz]
 have k1:sumQ (fun j=>combA p y j * (X j:Rat)) p.vars.length - sumQ (loT p.vars (combA p y)) p.vars.length≤sumQ (fun j=>(ceilQ (combA p y j):Rat) * (X j:Rat)) p.vars.length - sumQ (loT p.vars fun j=>(ceilQ (combA p y j):Rat)) p.vars.length:=by
  have a1:=P0 (fun j=>combA p y j * (X j:Rat)) (fun j => - loT p.vars (combA p y) j) p.vars.length
  have a2:=P0 (fun j=>(ceilQ (combA p y j):Rat) * (X j:Rat)) (fun j => - loT p.vars (fun j=>(ceilQ (combA p y j):Rat)) j) p.vars.length
  rw[Uh] at a1 a2
  have:sumQ (fun j=>combA p y j * (X j:Rat) + - loT p.vars (combA p y) j) p.vars.length≤sumQ (fun j=>(ceilQ (combA p y j):Rat) * (X j:Rat) + - loT p.vars (fun j=>(ceilQ (combA p y j):Rat)) j) p.vars.length:=by
   refine Ra fun j hj=>?_
   obtain⟨v,hv,_⟩:=Ut hj
   unfold loT
   simp only[hv]
   have b1:(v.lo:Rat)≤(X j:Rat):=Rat.intCast_le_intCast.2 (hs.1 j v hv).1
   have b2:=J1Q (combA p y j)
   have:=Rat.mul_nonneg (a:=(ceilQ (combA p y j):Rat) - combA p y j) (b:=(X j:Rat) - (v.lo:Rat)) (by grind) (by grind)
   grind
  grind
 grind
theorem J0s (vs:List VarM)(j:Int)(i:Nat):(setLow vs j)[i]?=(vs[i]?).map fun v=>if (i:Int)=j then { v with lo:=1 } else v:=by
 simp[setLow,List.getElem?_mapIdx]
theorem J5W (vs:List VarM)(j:Int):(setLow vs j).length=vs.length:=by simp[setLow]
theorem Ni:∀ (l:List Int) (vs:List VarM),(lowAll vs l).length=vs.length
 | [],vs=>rfl
 | j :: l,vs=>by unfold lowAll;rw[List.foldl_cons];exact(Ni l _).trans (J5W vs j)
theorem S7:∀ (l:List Int) (vs:List VarM) (i:Nat),(lowAll vs l)[i]?=(vs[i]?).map fun v=>if (i:Int) ∈ l then { v with lo:=1 } else v
 | [],vs,i=>by simp[lowAll]
 | j :: l,vs,i=>by
  have:=S7 l (setLow vs j) i
  unfold lowAll at this ⊢
  rw[List.foldl_cons,this,J0s]
  cases vs[i]? with
  | none=>rfl
  | some v=>
   simp only[Option.map_some,List.mem_cons]
   by_cases h1:(i:Int) ∈ l<;>by_cases h2:(i:Int)=j<;>simp[h1,h2]
theorem J3e {vs:List VarM}{X:Nat→Int}{l:List Int}(hb:InB vs X)(h:∀ v ∈ l,0≤v∧X v.toNat=1):InB (lowAll vs l) X:=fun j v hv=>by
 rw[S7] at hv
 cases hj:vs[j]? with
 | none=>rw[hj] at hv;cases hv
 | some u=>
  rw[hj] at hv
  have hu:=hb j u hj
  simp only[Option.map_some,Option.some.injEq] at hv
  subst hv
  by_cases h1:(j:Int) ∈ l
  ·rw[if_pos h1]
   have:=(h _ h1).2
   simp at this
   exact⟨by simp only[];omega,hu.2⟩
  ·rw[if_neg h1];exact hu
theorem Vu (X:Nat→Int):∀ (l:List Int),(∀ v ∈ l,X v.toNat≤1)→(dotZ (l.map fun v=>⟨v,1⟩) X≤l.length∧((∃ v ∈ l,X v.toNat≤0)→dotZ (l.map fun v=>⟨v,1⟩) X≤(l.length:Int) - 1))
 | [],_=>by simp[dotZ]
 | v :: l,h=>by
  obtain⟨i1,i2⟩:=Vu X l (fun v hv=>h v (List.mem_cons_of_mem _ hv))
  have hv:=h v (List.mem_cons_self ..)
  have e:dotZ ((v :: l).map fun v=>(⟨v,1⟩:Jg)) X=X v.toNat+dotZ (l.map fun v=>⟨v,1⟩) X:=by simp[dotZ]
  rw[e,List.length_cons]
  refine⟨by omega,fun⟨u,hu,hu0⟩=>?_⟩
  rcases List.mem_cons.1 hu with rfl|hu
  ·omega
  ·have:=i2 ⟨u,hu,hu0⟩;omega
theorem J25 {p:Prg}{X:Nat→Int}{x:RowS}{l:List Int}(ht:TIn p.vars.length x)(hx:Sat x X)(hb:InB p.vars X)(hv:∀ v ∈ l,Kw p v)(hc:Mp p.vars x l):Sat (coverRow l) X:=by
 have hbin:∀ v ∈ l,0≤v∧0≤X v.toNat∧X v.toNat≤1:=fun v h=>by
  obtain⟨u,h1,h2,_,_,h3,h4⟩:=hv v h
  have:=hb _ _ h2
  rw[h3,h4] at this
  exact⟨h1,this⟩
 have hd:=Vu X l (fun v h=>(hbin v h).2.2)
 refine⟨fun _=>?_,(fun h=>absurd (show(0:Int)=1 from h) (by decide)),fun h _=>absurd rfl h⟩
 refine hd.2 ?_
 by_cases hall:∃ v ∈ l,X v.toNat≤0
 ·exact hall
 ·exfalso
  have h1:InB (lowAll p.vars l) X:=J3e hb fun v h=>⟨(hbin v h).1,by
   have:=hbin v h
   by_cases k:X v.toNat≤0
   ·exact absurd ⟨v,h,k⟩ hall
   ·omega⟩
  have h2:=Yo (a:=fun j=>((sgnR x * rowCoef x.terms j:Int):Rat)) h1
  rw[Ni] at h2
  have e:(fun j=>((sgnR x * rowCoef x.terms j:Int):Rat) * (X j:Rat))=fun j=>((rowCoef x.terms j:Rat) * (X j:Rat)) * (sgnR x:Rat):=by
   funext j;rw[Rat.intCast_mul];grind
  rw[e,Rb,Ty X _ _ ht] at h2
  have h3:=hc.2
  have h4:((sgnR x * x.bound:Int):Rat) < ((sgnR x * dotZ x.terms X:Int):Rat):=by
   rw[Rat.intCast_mul (sgnR x) (dotZ x.terms X)]
   grind
  have h5:=Rat.intCast_lt_intCast.1 h4
  obtain⟨k0,k1,k2⟩:=hx
  unfold sgnR at h5
  by_cases q1:x.kind=1
  ·rw[if_pos q1] at h5
   have:=k1 q1
   omega
  ·rw[if_neg q1] at h5
   by_cases q0:x.kind=0
   ·have:=k0 q0
    omega
   ·have:=k2 q0 q1
    omega
theorem Ua (vs:List VarM)(j m:Int)(i:Nat):(setUp vs j m)[i]?=(vs[i]?).map fun v=>if (i:Int)=j then { v with up:=min v.up m } else v:=by simp[setUp,List.getElem?_mapIdx]
theorem T9 (vs:List VarM)(j m:Int)(i:Nat):(setLo vs j m)[i]?=(vs[i]?).map fun v=>if (i:Int)=j then { v with lo:=max v.lo m } else v:=by simp[setLo,List.getElem?_mapIdx]
theorem Py (vs:List VarM)(j m:Int):(setUp vs j m).length=vs.length:=by simp[setUp]
theorem Px (vs:List VarM)(j m:Int):(setLo vs j m).length=vs.length:=by simp[setLo]
theorem J3f {vs:List VarM}{X:Nat→Int}{j m:Int}(hb:InB vs X)(h:0≤j→X j.toNat≤m):InB (setUp vs j m) X:=fun i v hv=>by
 rw[Ua] at hv
 cases hj:vs[i]? with
 | none=>rw[hj] at hv;cases hv
 | some u=>
  rw[hj] at hv
  have hu:=hb i u hj
  simp only[Option.map_some,Option.some.injEq] at hv
  subst hv
  by_cases h1:(i:Int)=j
  ·subst h1
   rw[if_pos rfl]
   have:=h (by omega)
   simp only[Int.toNat_natCast] at this
   exact⟨hu.1,by simp only[];omega⟩
  ·rw[if_neg h1];exact hu
theorem J3d {vs:List VarM}{X:Nat→Int}{j m:Int}(hb:InB vs X)(h:0≤j→m≤X j.toNat):InB (setLo vs j m) X:=fun i v hv=>by
 rw[T9] at hv
 cases hj:vs[i]? with
 | none=>rw[hj] at hv;cases hv
 | some u=>
  rw[hj] at hv
  have hu:=hb i u hj
  simp only[Option.map_some,Option.some.injEq] at hv
  subst hv
  by_cases h1:(i:Int)=j
  ·subst h1
   rw[if_pos rfl]
   have:=h (by omega)
   simp only[Int.toNat_natCast] at this
   exact⟨by simp only[];omega,hu.2⟩
  ·rw[if_neg h1];exact hu
theorem R5 (a:Nat→Rat):∀ k,∀ t ∈ cutTerms a k,0≤t.v∧t.v < (k:Int)
 | 0,t,h=>by cases h
 | k+1,t,h=>by
  unfold cutTerms at h
  rcases List.mem_append.1 h with h|h
  ·have:=R5 a k t h;omega
  ·split at h
   ·cases h
   ·obtain rfl:=List.mem_singleton.1 h
    exact⟨by simp only[];omega,by simp only[];omega⟩
theorem J2l {p:Prg}{c:CutS}{r:RowS}(h:Kz p c r):TIn p.vars.length r:=by
 obtain⟨hf,⟨_,_,rfl⟩|⟨hk,_,rfl⟩⟩:=h
 ·exact R5 _ _
 ·intro t ht
  obtain⟨v,hv,rfl⟩:=List.mem_map.1 ht
  rcases hf with hf|hf
  ·omega
  ·obtain⟨x,h1,h2,_⟩:=hf.2.2.2.2.2.2 v hv
   have:=(List.getElem?_eq_some_iff.1 h2).1
   exact⟨h1,by simp only[];omega⟩
theorem J2k {p:Prg}{c:CutS}{r:RowS}{X:Nat→Int}(ht:∀ r ∈ p.rows,TIn p.vars.length r)(h:Kz p c r)(hs:Sol p X):Sat r X:=by
 obtain⟨hf,⟨_,hr,rfl⟩|⟨hk,⟨x,hx,hc⟩,rfl⟩⟩:=h
 ·exact J5K ht hr.1 hs
 ·have hm:=List.mem_of_getElem? hx
  rcases hf with hf|hf
  ·omega
  ·exact J25 (ht x hm) (hs.2 x hm) hs.1 hf.2.2.2.2.2.2 hc
theorem J56 {p:Prg}{t r:List Jh}(h:Jn p t r):(∀ r ∈ p.rows,TIn p.vars.length r)→∀ X,¬ Sol p X:=by
 induction h with
 | farkas h0 h1 h2 h3=>exact fun ht X=>J3h ht h3
 | @empty p n t v h0 h1 h2 h3 h4=>
  intro ht X hs
  have:=hs.1 _ _ h3
  omega
 | @split p n t r s h0 h1 h2 h3 h4 h5 i4 i5=>
  intro ht X hs
  by_cases h:X n.var.toNat≤n.pos
  ·exact i4 (by unfold lowPart;simp only[Py];exact ht) X ⟨J3f hs.1 fun _=>h,hs.2⟩
  ·exact i5 (by unfold highPart;simp only[Px];exact ht) X ⟨J3d hs.1 fun _=>by omega,hs.2⟩
 | @cut p n t s r h0 h1 h2 h4 i4=>
  intro ht X hs
  refine i4 ?_ X ⟨hs.1,?_⟩
  ·intro x hx
   rcases List.mem_append.1 hx with hx|hx
   ·exact ht x hx
   ·obtain rfl:=List.mem_singleton.1 hx
    exact show TIn p.vars.length _ from J2l h2
  ·intro x hx
   rcases List.mem_append.1 hx with hx|hx
   ·exact hs.2 x hx
   ·obtain rfl:=List.mem_singleton.1 hx
    exact J2k ht h2 hs
theorem Rv {y:List Rat}{i:Nat}(h:y.length≤i):atQ y i=0:=by unfold atQ;rw[List.getElem?_eq_none h];rfl
theorem Yw {vs:List VarM}{j m:Int}{v:VarM}(h:v ∈ setUp vs j m):∃ u ∈ vs,v=u∨v={ u with up:=min u.up m }:=by
 obtain⟨i,hi,rfl⟩:=List.getElem_of_mem h
 have h1:=Ua vs j m i
 rw[List.getElem?_eq_getElem hi] at h1
 cases h2:vs[i]? with
 | none=>rw[h2] at h1;cases h1
 | some u=>
  rw[h2] at h1
  simp only[Option.map_some,Option.some.injEq] at h1
  refine⟨u,List.mem_of_getElem? h2,?_⟩
  rw[h1]
  split
  ·exact .inr rfl
  ·exact .inl rfl
theorem Yv {vs:List VarM}{j m:Int}{v:VarM}(h:v ∈ setLo vs j m):∃ u ∈ vs,v=u∨v={ u with lo:=max u.lo m }:=by
 obtain⟨i,hi,rfl⟩:=List.getElem_of_mem h
 have h1:=T9 vs j m i
 rw[List.getElem?_eq_getElem hi] at h1
 cases h2:vs[i]? with
 | none=>rw[h2] at h1;cases h1
 | some u=>
  rw[h2] at h1
  simp only[Option.map_some,Option.some.injEq] at h1
  refine⟨u,List.mem_of_getElem? h2,?_⟩
  rw[h1]
  split
  ·exact .inr rfl
  ·exact .inl rfl
theorem J3Q {p:Prg}{v m:Int}(hp:Jr p)(hw:Whole p)(h1 : -1099511627776≤m)(h2:m < 1099511627776):Jr (lowPart p v m)∧Whole (lowPart p v m):=by
 refine⟨⟨by simp[lowPart,Py];exact hp.1,hp.2.1,fun x hx=>?_,fun r hr=>?_⟩,fun x hx=>?_⟩
 ·obtain⟨u,hu,rfl|rfl⟩:=Yw hx
  ·exact hp.2.2.1 _ hu
  ·obtain⟨k1,k2,k3,k4⟩:=hp.2.2.1 _ hu
   refine⟨k1,?_,k3,fun h=>?_⟩
   ·unfold In at k2 ⊢;simp only[];omega
   ·have:=(hw u hu).2
    simp only[] at h
    rw[this] at h
    exact absurd h.1 (by decide)
 ·have:=hp.2.2.2 r hr
  unfold lowPart
  simp only[Py];exact this
 ·obtain⟨u,hu,rfl|rfl⟩:=Yw hx
  ·exact hw _ hu
  ·exact hw u hu
theorem J3a {p:Prg}{v m:Int}(hp:Jr p)(hw:Whole p)(h1 : -1099511627776≤m)(h2:m < 1099511627776):Jr (highPart p v m)∧Whole (highPart p v m):=by
 refine⟨⟨by simp[highPart,Px];exact hp.1,hp.2.1,fun x hx=>?_,fun r hr=>?_⟩,fun x hx=>?_⟩
 ·obtain⟨u,hu,rfl|rfl⟩:=Yv hx
  ·exact hp.2.2.1 _ hu
  ·obtain⟨k1,k2,k3,k4⟩:=hp.2.2.1 _ hu
   refine⟨?_,k2,k3,k4⟩
   unfold In at k1 ⊢;simp only[];omega
 ·have:=hp.2.2.2 r hr
  unfold highPart
  simp only[Px];exact this
 ·obtain⟨u,hu,rfl|rfl⟩:=Yv hx
  ·exact hw _ hu
  ·exact hw u hu
theorem X3 {n:Nat}(t:Jg):∀ (l:List Jg) (last:Int),Inc n last l→(∀ x ∈ l,x.v < t.v)→last < t.v→t.v < (n:Int)→t.c≠0→In t.c→Inc n last (l ++ [t])
 | [],last,_,_,h2,h3,h4,h5=>⟨⟨h2,h3,h4,h5⟩,trivial⟩
 | x :: l,last,h,h1,h2,h3,h4,h5=>⟨h.1,X3 t l x.v h.2 (fun y hy=>h1 y (List.mem_cons_of_mem _ hy)) (h1 x (List.mem_cons_self ..)) h3 h4 h5⟩
theorem R6 {n:Nat}(a:Nat→Rat)(h:∀ j,j < n→In (ceilQ (a j))):∀ k,k≤n→Inc n (-1) (cutTerms a k)
 | 0,_=>trivial
 | k+1,hk=>by
  rw[Ph]
  by_cases h0:ceilQ (a k)=0
  ·rw[if_pos h0,List.append_nil];exact R6 a h k (by omega)
  ·rw[if_neg h0]
   exact X3 _ _ _ (R6 a h k (by omega)) (fun x hx=>(R5 a k x hx).2) (by simp only[];omega) (by simp only[];omega) h0 (h k (by omega))
theorem X0 {n:Nat}:∀ (l:List Int) (last:Int),-1≤last→last < (n:Int)→IncI last l→(∀ v ∈ l,v < (n:Int))→(l.length:Int)≤(n:Int) - 1 - last
 | [],last,h1,h2,_,_=>by simp;omega
 | v :: l,last,h1,h2,h,hn=>by
  have:=X0 l v (by have:=h.1;omega) (hn v (List.mem_cons_self ..)) h.2 (fun u hu=>hn u (List.mem_cons_of_mem _ hu))
  have:=h.1
  rw[List.length_cons]
  omega
theorem Vv {n:Nat}:∀ (l:List Int) (last:Int),IncI last l→(∀ v ∈ l,v < (n:Int))→Inc n last (l.map fun v=>⟨v,1⟩)
 | [],_,_,_=>trivial
 | v :: l,last,h,hn=>⟨⟨h.1,hn v (List.mem_cons_self ..),(show(1:Int)≠0 by decide),(show In 1 by unfold In;decide)⟩,Vv l v h.2 fun u hu=>hn u (List.mem_cons_of_mem _ hu)⟩
theorem Qg:cutName.length≤80∧∀ b ∈ cutName,32≤b∧b≤126:=by decide
theorem Qe {p:Prg}{v:Int}(h:Kw p v):0≤v∧v < (p.vars.length:Int):=by
 obtain⟨x,h1,h2,_⟩:=h
 have:=(List.getElem?_eq_some_iff.1 h2).1
 exact⟨h1,by omega⟩
theorem J2j {p:Prg}{c:CutS}{r:RowS}(hp:Jr p)(h:Kz p c r):Kb p.vars.length r:=by
 obtain⟨hf,⟨hk,hr,rfl⟩|⟨hk,_,rfl⟩⟩:=h
 ·exact⟨(show(0:Int)≤1∧(1:Int)≤2 by decide),(show(0:Int)≤0∧(0:Int)≤60 by decide),Qg.1,hr.2.2,Qg.2,R6 _ hr.2.1 _ (Nat.le_refl _)⟩
 ·rcases hf with hf|⟨_,_,_,_,hne,hi,hb⟩
  ·omega
  ·have h1:=fun v hv=>(Qe (hb v hv)).2
   have hpos:0 < p.vars.length:=by
    cases hv:c.vars with
    | nil=>exact absurd hv hne
    | cons v l=>
     have:=Qe (hb v (by rw[hv];exact List.mem_cons_self ..))
     omega
   have h2:=X0 c.vars (-1) (by decide) (by omega) hi h1
   have h3:=hp.1
   refine⟨(show(0:Int)≤0∧(0:Int)≤2 by decide),(show(0:Int)≤0∧(0:Int)≤60 by decide),Qg.1,?_,Qg.2,Vv _ _ hi h1⟩
   have h4:0 < c.vars.length:=List.length_pos_iff.2 hne
   exact⟨by show -1099511627776≤(c.vars.length:Int) - 1;omega,by show(c.vars.length:Int) - 1≤1099511627776;omega⟩
theorem J1r {p:Prg}{r:RowS}(hp:Jr p)(hr:Kb p.vars.length r)(hn:p.rows.length < 4000):Jr (addRow p r):=by
 refine⟨hp.1,by simp[addRow];omega,hp.2.2.1,fun x hx=>?_⟩
 rcases List.mem_append.1 hx with hx|hx
 ·exact hp.2.2.2 x hx
 ·obtain rfl:=List.mem_singleton.1 hx
  exact hr
end Prf
end Go.Proofs.YtcjgimlcefhhmaaGreatDoor
