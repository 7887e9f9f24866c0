/- Texts: Rgf. -/
import Derived.RangeFuncNested
import Derived.RangeFuncBound
import Derived.RangeFuncCalls
import Derived.RangeFuncLeaves
import Derived.Test.YtcjgimlcefhhmaaGreatDoorU20
set_option linter.unusedVariables false
set_option linter.unusedSimpArgs false
set_option maxRecDepth 100000
set_option maxHeartbeats 12800000
namespace Go.Proofs.YtcjgimlcefhhmaaGreatDoor
namespace Rgf
open Go.RowKit
theorem J6S {P:Program}{α:Type}{g:Operand}{ps:Array Tmp}{assign body:Code}{Q:Exit→Act→World→Prop}{a:Act}{w:World}{gf:Nat}{lb:Array Value}
  (hg:a.eval g = .func (.func gf) #[] lb) (eg:∀ args w,(callFunc gf args).run P w = .ok (.enter gf args) w)
  {encs:α→Array Value} (hps:∀ x,(encs x).size=ps.size) (bs bo:Nat) (C:World→Prop) (hbs:bs < w.heap.size) (hbo:bo < w.heap.size) (all:List α)
  (hseq:∀ (l:Nat) (J:List α→World→Prop) (W:World),Gr w W→J [] W→
   (∀ pre W W',J pre W→C W→W.grownBy W' (some bs)→J pre W')→
   (∀ pre x W1,pre ++ [x] <+: all→J pre W1→YieldAt Fence.wide 0 P l (encs x) W1 (fun e W'=>e = .returned (.bool true)∧J (pre ++ [x]) W'∧∀ b,b < w.heap.size→b≠bo→W'.heap[b]?=W1.heap[b]?))→
   CallsIn Fence.wide 0 P gf (#[.func (.yield l) #[] #[]] ++ lb) W (fun e W'=>(∃ v,e = .returned v)∧J all W'))
  (I:List α→World→Prop) (hI:∀ s W W' row,I s W→W.grownBy W' row→(∀ r,row=some r→(r=bs∧C W)∨(w.heap.size≤r∧∃ o:Obj,W.heap[r]?=some o∧o.isCells=false))→I s W')
  (h0:I [] w) (a₁:α→Act)
  (hassign:∀ (l:Nat) (x:α) (W:World) (K:Act→World→Prop),K (a₁ x) W→
   assign.wpIn (Fence.wide.inRound l) 0 P (Exit.then K (fun _ _ _=>False)) { tmps:=(ps.zip (encs x)).foldl (fun t (p,v)=>t.setIfInBounds p v) a.tmps,defers:=[] } W)
  (hbody:∀ (l:Nat) (pre:List α) (x:α) (W:World),pre ++ [x] <+: all→I pre W→body.wpIn (Fence.wide.inRound l) 0 P (fun e _ W'=>e = .normal∧KeepsOthers W W'∧(∀ b,b < w.heap.size→b≠bo→W'.heap[b]?=W.heap[b]?)∧I (pre ++ [x]) W') (a₁ x) W)
  (hdone:∀ (D:Nat) (W:World),w.heap.size≤D→I all W→W.heap[D]?=some (.deferred (some []))→Q .normal { a with defers:={ target:=.collected D,args:=#[] } :: a.defers } W):
  (Code.rangeFunc g ps assign body).wp P Q a w:=by
 refine(wpIn_wide (n:=0)).1 ?_
 refine wpIn_rangeFunc ?_
 intro fn hfn
 rw[Fence.wide_round]
 obtain⟨rec,hrec⟩:∃ rec:LoopState→Option Code→Loop,rec=fun st pe=>{ state:=st,pending:=pe,fn,tmps:=a.tmps,params:=ps,assign,body,defers:=w.heap.size }:=⟨_,rfl⟩
 obtain⟨W1,hW1⟩:∃ W1,(w.alloc (.deferred (some []))).alloc (.loop (rec .ready none))=W1:=⟨_,rfl⟩
 have hL1:W1.heap[w.heap.size+1]?=some (.loop (rec .ready none)):=by
  rw[← hW1];have:=World.alloc_heap_new (w.alloc (.deferred (some []))) (.loop (rec .ready none));rwa [World.size_alloc] at this
 have hK1:W1.heap[w.heap.size]?=some (.deferred (some [])):=by
  rw[← hW1];exact(Below.heap_alloc _ _ _ (by simp)).trans (World.alloc_heap_new w _)
 have hG1:Gr w W1:=by rw[← hW1];exact((Gr.refl w).alloc _).alloc _
 have none_row:∀ {A:World},∀ r,(none:Option Nat)=some r→(r=bs∧C A)∨(w.heap.size≤r∧∃ o:Obj,A.heap[r]?=some o∧o.isCells=false):=fun r e=>by cases e
 have hI1:I [] W1:=by
  rw[← hW1]
  exact hI _ _ _ none (hI _ _ _ none h0 (World.grownBy_alloc _ _ _) none_row) (World.grownBy_alloc _ _ _) none_row
 have put:∀ (s:List α) (A:World) (o o':Obj),I s A→A.heap[w.heap.size+1]?=some o→o.isCells=false→I s (A.putObj (w.heap.size+1) o'):=fun s A o o' h1 h2 h3=>
  hI _ _ _ (some (w.heap.size+1)) h1 (grownBy_putObj' A _ o') (fun r e=>by cases e;exact .inr ⟨by omega,o,h2,h3⟩)
 refine⟨w.heap.size+1,[{ target:=.collected w.heap.size,args:=#[] }],W1,{ target:=.fn (.func gf) lb,args:=#[.func (.yield (w.heap.size+1)) #[] #[]] },W1,gf,
  #[.func (.yield (w.heap.size+1)) #[] #[]] ++ lb,W1,?_,?_,?_,?_,fun h=>by simp[Fence.wide] at h,?_⟩
 ·rw[← hW1,hrec];exact run_enterLoop_outer _ _ _ _ _
 ·simp only[resolve,hg]
  simp[go_sem]
 ·intro f' _;trivial
 ·simp[invoke,go_sem,eg]
 ·refine CallsIn.mono (hseq (w.heap.size+1)
   (fun pre W=>I pre W∧W.heap[w.heap.size+1]?=some (.loop (rec .ready none))∧W.heap[w.heap.size]?=some (.deferred (some [])))
   W1 hG1 ⟨hI1,hL1,hK1⟩ ?_ ?_) ?_
  ·rintro pre W W' ⟨h1,h2,h3⟩ hc hg'
   have e1:=(Array.getElem?_eq_some_iff.1 h2).1
   exact⟨hI _ _ _ (some bs) h1 hg' (fun r e=>by cases e;exact .inl ⟨rfl,hc⟩),(hg'.block _ e1 (fun e=>by cases e;omega)).trans h2,(hg'.block _ (by omega) (fun e=>by cases e;omega)).trans h3⟩
  ·rintro pre x W hpre ⟨hi,hl,hk⟩
   have hlt:w.heap.size+1 < W.heap.size:=(Array.getElem?_eq_some_iff.1 hl).1
   have hy:=run_yield (P:=P) (args:=encs x) hl (by rw[hrec];exact hps x)
   rw[hrec] at hy
   refine⟨fn,_,assign,body,hy,roundIn_of_wpIn hfn (hassign _ x W _ ⟨_,run_beginRound hl (by rw[hrec]),?_⟩)⟩
   obtain⟨W2,hW2⟩:∃ W2,W.putObj (w.heap.size+1) (.loop { rec .ready none with state:=.busy })=W2:=⟨_,rfl⟩
   have hl2:W2.heap[w.heap.size+1]?=some (.loop { rec .ready none with state:=.busy }):=by rw[← hW2];exact World.putObj_heap_same hlt
   have hk2:W2.heap[w.heap.size]?=some (.deferred (some [])):=by rw[← hW2];exact(World.putObj_heap_other (by omega)).trans hk
   have hi2:I pre W2:=by rw[← hW2];exact put _ _ _ _ hi hl rfl
   have ho2:∀ b,b < w.heap.size→W2.heap[b]?=W.heap[b]?:=fun b hb=>by rw[← hW2];exact World.putObj_heap_other (by omega)
   have hz2:W2.heap.size=W.heap.size:=by rw[← hW2];exact World.putObj_size
   rw[hW2]
   refine wpIn_mono (hbody _ pre x _ hpre hi2) ?_
   rintro e a3 W3 ⟨rfl,hk3',hg3,hi3⟩
   have hl3:W3.heap[w.heap.size+1]?=some (.loop { rec .ready none with state:=.busy }):=hk3'.same _ _ hl2 rfl
   have hk3:W3.heap[w.heap.size]?=some (.deferred (some [])):=hk3'.same _ _ hk2 rfl
   have he:=run_endRound (P:=P) none hl3
   refine⟨_,_,he,rfl,⟨put _ _ _ _ hi3 hl3 rfl,?_,(World.putObj_heap_other (by omega)).trans hk3⟩,fun b hb hne=>?_⟩
   ·rw[World.putObj_heap_same (Array.getElem?_eq_some_iff.1 hl3).1,hrec];rfl
   ·rw[World.putObj_heap_other (by omega),hg3 b hb hne,ho2 b hb]
  ·rintro e W2 ⟨⟨v,rfl⟩,hi,hl,hk⟩
   exact⟨none,_,by have:=run_endLoop (P:=P) hl (by rw[hrec];simp);rw[hrec] at this;exact this,hdone _ _ (Nat.le_refl _) (put _ _ _ _ hi hl rfl) ((World.putObj_heap_other (by omega)).trans hk)⟩
end Rgf
end Go.Proofs.YtcjgimlcefhhmaaGreatDoor
