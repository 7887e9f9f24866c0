/- Texts: Rgf. -/
import Derived.RangeFuncNested
import Derived.RangeFuncBound
import Derived.Test.YtcjgimlcefhhmaaGreatDoorC14
set_option linter.unusedVariables false
set_option linter.unusedSimpArgs false
set_option maxRecDepth 100000
set_option maxHeartbeats 12800000
namespace Go.Proofs.YtcjgimlcefhhmaaGreatDoor
namespace Rgf
open Go.RowKit
theorem J70 {P:Program}{α:Type}{g:Operand}{B:Array Tmp}{assign body:Code}{Q:Exit→Act→World→Prop}{a:Act}{w:World}{gf:Nat}{lb:Array Value}
  (hg:a.eval g = .func (.func gf) #[] lb) (eg:∀ args w,(callFunc gf args).run P w = .ok (.enter gf args) w)
  {encs:α→Array Value} (b9:∀ x,(encs x).size=B.size) (q E:Nat) (C:World→Prop) (c2:q < w.heap.size) (c1:E < w.heap.size) (all:List α)
  (c0:∀ (l:Nat) (J:List α→World→Prop) (W:World),Gr w W→J [] W→
   (∀ c W d,J c W→C W→W.grownBy d (some q)→J c d)→
   (∀ c x f,c ++ [x] <+: all→J c f→YieldAt Fence.wide 0 P l (encs x) f (fun e d=>e = .returned (.bool true)∧J (c ++ [x]) d∧∀ b,b < w.heap.size→b≠E→d.heap[b]?=f.heap[b]?))→
   CallsIn Fence.wide 0 P gf (#[.func (.yield l) #[] #[]] ++ lb) W (fun e d=>(∃ v,e = .returned v)∧J all d))
  (I:List α→World→Prop) (z:∀ s W d row,I s W→W.grownBy d row→(∀ r,row=some r→(r=q∧C W)∨(w.heap.size≤r∧∃ o:Obj,W.heap[r]?=some o∧o.isCells=false))→I s d)
  (h0:I [] w) (U:α→Act)
  (a5:∀ (l:Nat) (x:α) (W:World) (K:Act→World→Prop),K (U x) W→
   assign.wpIn (Fence.wide.inRound l) 0 P (Exit.then K (fun _ _ _=>False)) { tmps:=(B.zip (encs x)).foldl (fun t (p,v)=>t.setIfInBounds p v) a.tmps,defers:=[] } W)
  (a6:∀ (l:Nat) (c:List α) (x:α) (W:World),c ++ [x] <+: all→I c W→body.wpIn (Fence.wide.inRound l) 0 P (fun e _ d=>e = .normal∧KeepsOthers W d∧(∀ b,b < w.heap.size→b≠E→d.heap[b]?=W.heap[b]?)∧I (c ++ [x]) d) (U x) W)
  (a7:∀ (D:Nat) (W:World),w.heap.size≤D→I all W→W.heap[D]?=some (.deferred (some []))→Q .normal { a with defers:={ target:=.collected D,args:=#[] } :: a.defers } W):
  (Code.rangeFunc g B assign body).wp P Q a w:=by
 refine(wpIn_wide (n:=0)).1 ?_;refine wpIn_rangeFunc ?_;intro fn a8;rw[Fence.wide_round];obtain⟨rec,k⟩:∃ rec:LoopState→Option Code→Loop,rec=fun st pe=>{ state:=st,pending:=pe,fn,tmps:=a.tmps,params:=B,assign,body,defers:=w.heap.size }:=⟨_,rfl⟩
 obtain⟨f,u⟩:∃ f,(w.alloc (.deferred (some []))).alloc (.loop (rec .ready none))=f:=⟨_,rfl⟩
 have a4:f.heap[w.heap.size+1]?=some (.loop (rec .ready none)):=by
  rw[← u];have:=World.alloc_heap_new (w.alloc (.deferred (some []))) (.loop (rec .ready none));rwa [World.size_alloc] at this
 have a2:f.heap[w.heap.size]?=some (.deferred (some [])):=by
  rw[← u];exact(Below.heap_alloc _ _ _ (by simp)).trans (World.alloc_heap_new w _)
 have a0:Gr w f:=by rw[← u];exact((Gr.refl w).alloc _).alloc _
 have Y:∀ {A:World},∀ r,(none:Option Nat)=some r→(r=q∧C A)∨(w.heap.size≤r∧∃ o:Obj,A.heap[r]?=some o∧o.isCells=false):=fun r e=>by cases e
 have a1:I [] f:=by
  rw[← u];exact z _ _ _ none (z _ _ _ none h0 (World.grownBy_alloc _ _ _) Y) (World.grownBy_alloc _ _ _) Y
 have S:∀ (s:List α) (A:World) (o R:Obj),I s A→A.heap[w.heap.size+1]?=some o→o.isCells=false→I s (A.putObj (w.heap.size+1) R):=fun s A o R F y G=>
  z _ _ _ (some (w.heap.size+1)) F (grownBy_putObj' A _ R) (fun r e=>by cases e;exact .inr ⟨by omega,o,y,G⟩)
 refine⟨w.heap.size+1,[{ target:=.collected w.heap.size,args:=#[] }],f,{ target:=.fn (.func gf) lb,args:=#[.func (.yield (w.heap.size+1)) #[] #[]] },f,gf,
  #[.func (.yield (w.heap.size+1)) #[] #[]] ++ lb,f,?_,?_,?_,?_,fun h=>by simp[Fence.wide] at h,?_⟩
 ·rw[← u,k];exact run_enterLoop_outer _ _ _ _ _
 ·simp only[resolve,hg];simp[go_sem]
 ·intro f' _;trivial
 ·simp[invoke,go_sem,eg]
 ·refine CallsIn.mono (c0 (w.heap.size+1)
   (fun c W=>I c W∧W.heap[w.heap.size+1]?=some (.loop (rec .ready none))∧W.heap[w.heap.size]?=some (.deferred (some [])))
   f a0 ⟨a1,a4,a2⟩ ?_ ?_) ?_
  ·rintro c W d ⟨F,y,G⟩ hc L;have e1:=(Array.getElem?_eq_some_iff.1 y).1;exact⟨z _ _ _ (some q) F L (fun r e=>by cases e;exact .inl ⟨rfl,hc⟩),(L.block _ e1 (fun e=>by cases e;omega)).trans y,(L.block _ (by omega) (fun e=>by cases e;omega)).trans G⟩
  ·rintro c x W b8 ⟨M,j,N⟩;have b5:w.heap.size+1 < W.heap.size:=(Array.getElem?_eq_some_iff.1 j).1;have X:=run_yield (P:=P) (args:=encs x) j (by rw[k];exact b9 x);rw[k] at X;refine⟨fn,_,assign,body,X,roundIn_of_wpIn a8 (a5 _ x W _ ⟨_,run_beginRound j (by rw[k]),?_⟩)⟩;obtain⟨i,m⟩:∃ i,W.putObj (w.heap.size+1) (.loop { rec .ready none with state:=.busy })=i:=⟨_,rfl⟩
   have b4:i.heap[w.heap.size+1]?=some (.loop { rec .ready none with state:=.busy }):=by rw[← m];exact World.putObj_heap_same b5
   have b2:i.heap[w.heap.size]?=some (.deferred (some [])):=by rw[← m];exact(World.putObj_heap_other (by omega)).trans N
   have b0:I c i:=by rw[← m];exact S _ _ _ _ M j rfl
   have b7:∀ b,b < w.heap.size→i.heap[b]?=W.heap[b]?:=fun b H=>by rw[← m];exact World.putObj_heap_other (by omega)
   have c3:i.heap.size=W.heap.size:=by rw[← m];exact World.putObj_size
   rw[m];refine wpIn_mono (a6 _ c x _ b8 b0) ?_;rintro e a3 T ⟨rfl,V,a9,b1⟩;have O:T.heap[w.heap.size+1]?=some (.loop { rec .ready none with state:=.busy }):=V.same _ _ b4 rfl;have b3:T.heap[w.heap.size]?=some (.deferred (some [])):=V.same _ _ b2 rfl;have he:=run_endRound (P:=P) none O;refine⟨_,_,he,rfl,⟨S _ _ _ _ b1 O rfl,?_,(World.putObj_heap_other (by omega)).trans b3⟩,fun b H b6=>?_⟩
   ·rw[World.putObj_heap_same (Array.getElem?_eq_some_iff.1 O).1,k];rfl
   ·rw[World.putObj_heap_other (by omega),a9 b H b6,b7 b H]
  ·rintro e i ⟨⟨v,rfl⟩,M,j,N⟩;exact⟨none,_,by have:=run_endLoop (P:=P) j (by rw[k];simp);rw[k] at this;exact this,a7 _ _ (Nat.le_refl _) (S _ _ _ _ M j rfl) ((World.putObj_heap_other (by omega)).trans N)⟩
end Rgf
end Go.Proofs.YtcjgimlcefhhmaaGreatDoor
