/- Texts: Rgf PyB PyC Owu PyE. -/
import Derived.RangeFuncNested
import Derived.RangeFuncBound
import Derived.RangeFuncCalls
import Derived.RangeFuncLeaves
import Derived.OwnWalkIn
import Derived.Test.YtcjgimlcefhhmaaGreatDoorW15
import Derived.Test.YtcjgimlcefhhmaaGreatDoorW29
import Derived.Test.YtcjgimlcefhhmaaGreatDoorW48
set_option linter.unusedVariables false
set_option linter.unusedSimpArgs false
set_option maxRecDepth 100000
set_option maxHeartbeats 12800000
namespace Go.Proofs.YtcjgimlcefhhmaaGreatDoor
namespace Rgf
open Go.RowKit
theorem ξ9D {P : Program} {α : Type} {g : Operand} {ps : Array Tmp} {assign body : Code} {Q : Exit → Act → World → Prop} {a : Act} {w : World} {gf : Nat} {lb : Array Value}
  (hg : a.eval g = .func (.func gf) #[] lb) (eg : ∀ args w, (callFunc gf args).run P w = .ok (.enter gf args) w)
  {encs : α → Array Value} (hps : ∀ x, (encs x).size = ps.size) (bs bo : Nat) (C : World → Prop) (hbs : bs < w.heap.size) (hbo : bo < w.heap.size) (all : List α)
  (hseq : ∀ (l : Nat) (J : List α → World → Prop) (W : World), Gr w W → J [] W →
   (∀ pre W W', J pre W → C W → W.grownBy W' (some bs) → J pre W') →
   (∀ pre x W1, pre ++ [x] <+: all → J pre W1 → YieldAt Fence.wide 0 P l (encs x) W1 (fun e W' => e = .returned (.bool true) ∧ J (pre ++ [x]) W' ∧ ∀ b, b < w.heap.size → b ≠ bo → W'.heap[b]? = W1.heap[b]?)) →
   CallsIn Fence.wide 0 P gf (#[.func (.yield l) #[] #[]] ++ lb) W (fun e W' => (∃ v, e = .returned v) ∧ J all W'))
  (I : List α → World → Prop) (hI : ∀ s W W' row, I s W → W.grownBy W' row → (∀ r, row = some r → (r = bs ∧ C W) ∨ (w.heap.size ≤ r ∧ ∃ o : Obj, W.heap[r]? = some o ∧ o.isCells = false)) → I s W')
  (h0 : I [] w) (a₁ : α → Act)
  (hassign : ∀ (l : Nat) (x : α) (W : World) (K : Act → World → Prop), K (a₁ x) W →
   assign.wpIn (Fence.wide.inRound l) 0 P (Exit.then K (fun _ _ _ => False)) { tmps := (ps.zip (encs x)).foldl (fun t (p, v) => t.setIfInBounds p v) a.tmps, defers := [] } W)
  (hbody : ∀ (l : Nat) (pre : List α) (x : α) (W : World), pre ++ [x] <+: all → I pre W → body.wpIn (Fence.wide.inRound l) 0 P (fun e _ W' => e = .normal ∧ KeepsOthers W W' ∧ (∀ b, b < w.heap.size → b ≠ bo → W'.heap[b]? = W.heap[b]?) ∧ I (pre ++ [x]) W') (a₁ x) W)
  (hdone : ∀ (D : Nat) (W : World), w.heap.size ≤ D → I all W → W.heap[D]? = some (.deferred (some [])) → Q .normal { a with defers := { target := .collected D, args := #[] } :: a.defers } W) :
  (Code.rangeFunc g ps assign body).wp P Q a w := by
 refine (wpIn_wide (n := 0)).1 ?_
 refine wpIn_rangeFunc ?_
 intro fn hfn
 rw [Fence.wide_round]
 obtain ⟨rec, hrec⟩ : ∃ rec : LoopState → Option Code → Loop, rec = fun st pe => { state := st, pending := pe, fn, tmps := a.tmps, params := ps, assign, body, defers := w.heap.size } := ⟨_, rfl⟩
 obtain ⟨W1, hW1⟩ : ∃ W1, (w.alloc (.deferred (some []))).alloc (.loop (rec .ready none)) = W1 := ⟨_, rfl⟩
 have hL1 : W1.heap[w.heap.size + 1]? = some (.loop (rec .ready none)) := by
  rw [← hW1]; have := World.alloc_heap_new (w.alloc (.deferred (some []))) (.loop (rec .ready none)); rwa [World.size_alloc] at this
 have hK1 : W1.heap[w.heap.size]? = some (.deferred (some [])) := by
  rw [← hW1]; exact (Below.heap_alloc _ _ _ (by simp)).trans (World.alloc_heap_new w _)
 have hG1 : Gr w W1 := by rw [← hW1]; exact ((Gr.refl w).alloc _).alloc _
 have none_row : ∀ {A : World}, ∀ r, (none : Option Nat) = some r → (r = bs ∧ C A) ∨ (w.heap.size ≤ r ∧ ∃ o : Obj, A.heap[r]? = some o ∧ o.isCells = false) := fun r e => by cases e
 have hI1 : I [] W1 := by
  rw [← hW1]
  exact hI _ _ _ none (hI _ _ _ none h0 (World.grownBy_alloc _ _ _) none_row) (World.grownBy_alloc _ _ _) none_row
 have put : ∀ (s : List α) (A : World) (o o' : Obj), I s A → A.heap[w.heap.size + 1]? = some o → o.isCells = false → I s (A.putObj (w.heap.size + 1) o') := fun s A o o' h1 h2 h3 =>
  hI _ _ _ (some (w.heap.size + 1)) h1 (grownBy_putObj' A _ o') (fun r e => by cases e; exact .inr ⟨by omega, o, h2, h3⟩)
 refine ⟨w.heap.size + 1, [{ target := .collected w.heap.size, args := #[] }], W1, { target := .fn (.func gf) lb, args := #[.func (.yield (w.heap.size + 1)) #[] #[]] }, W1, gf,
  #[.func (.yield (w.heap.size + 1)) #[] #[]] ++ lb, W1, ?_, ?_, ?_, ?_, fun h => by simp [Fence.wide] at h, ?_⟩
 ·rw [← hW1, hrec]; exact run_enterLoop_outer _ _ _ _ _
 ·simp only [resolve, hg]
  simp [go_sem]
 ·intro f' _; trivial
 ·simp [invoke, go_sem, eg]
 ·refine CallsIn.mono (hseq (w.heap.size + 1)
   (fun pre W => I pre W ∧ W.heap[w.heap.size + 1]? = some (.loop (rec .ready none)) ∧ W.heap[w.heap.size]? = some (.deferred (some [])))
   W1 hG1 ⟨hI1, hL1, hK1⟩ ?_ ?_) ?_
  ·rintro pre W W' ⟨h1, h2, h3⟩ hc hg'
   have e1 := (Array.getElem?_eq_some_iff.1 h2).1
   exact ⟨hI _ _ _ (some bs) h1 hg' (fun r e => by cases e; exact .inl ⟨rfl, hc⟩), (hg'.block _ e1 (fun e => by cases e; omega)).trans h2, (hg'.block _ (by omega) (fun e => by cases e; omega)).trans h3⟩
  ·rintro pre x W hpre ⟨hi, hl, hk⟩
   have hlt : w.heap.size + 1 < W.heap.size := (Array.getElem?_eq_some_iff.1 hl).1
   have hy := run_yield (P := P) (args := encs x) hl (by rw [hrec]; exact hps x)
   rw [hrec] at hy
   refine ⟨fn, _, assign, body, hy, roundIn_of_wpIn hfn (hassign _ x W _ ⟨_, run_beginRound hl (by rw [hrec]), ?_⟩)⟩
   obtain ⟨W2, hW2⟩ : ∃ W2, W.putObj (w.heap.size + 1) (.loop { rec .ready none with state := .busy }) = W2 := ⟨_, rfl⟩
   have hl2 : W2.heap[w.heap.size + 1]? = some (.loop { rec .ready none with state := .busy }) := by rw [← hW2]; exact World.putObj_heap_same hlt
   have hk2 : W2.heap[w.heap.size]? = some (.deferred (some [])) := by rw [← hW2]; exact (World.putObj_heap_other (by omega)).trans hk
   have hi2 : I pre W2 := by rw [← hW2]; exact put _ _ _ _ hi hl rfl
   have ho2 : ∀ b, b < w.heap.size → W2.heap[b]? = W.heap[b]? := fun b hb => by rw [← hW2]; exact World.putObj_heap_other (by omega)
   have hz2 : W2.heap.size = W.heap.size := by rw [← hW2]; exact World.putObj_size
   rw [hW2]
   refine wpIn_mono (hbody _ pre x _ hpre hi2) ?_
   rintro e a3 W3 ⟨rfl, hk3', hg3, hi3⟩
   have hl3 : W3.heap[w.heap.size + 1]? = some (.loop { rec .ready none with state := .busy }) := hk3'.same _ _ hl2 rfl
   have hk3 : W3.heap[w.heap.size]? = some (.deferred (some [])) := hk3'.same _ _ hk2 rfl
   have he := run_endRound (P := P) none hl3
   refine ⟨_, _, he, rfl, ⟨put _ _ _ _ hi3 hl3 rfl, ?_, (World.putObj_heap_other (by omega)).trans hk3⟩, fun b hb hne => ?_⟩
   ·rw [World.putObj_heap_same (Array.getElem?_eq_some_iff.1 hl3).1, hrec]; rfl
   ·rw [World.putObj_heap_other (by omega), hg3 b hb hne, ho2 b hb]
  ·rintro e W2 ⟨⟨v, rfl⟩, hi, hl, hk⟩
   exact ⟨none, _, by have := run_endLoop (P := P) hl (by rw [hrec]; simp); rw [hrec] at this; exact this, hdone _ _ (Nat.le_refl _) (put _ _ _ _ hi hl rfl) ((World.putObj_heap_other (by omega)).trans hk)⟩
end Rgf
end Go.Proofs.YtcjgimlcefhhmaaGreatDoor
namespace Go.Proofs.YtcjgimlcefhhmaaGreatDoor
namespace Prf
open Go.RowKit Go.Lib
theorem ξ5t {α : Type} (w : World) (sz : Nat) (enc : α → List Value) : SlL w sz enc (.slice none 0 0) [] := (OwnL.nil w 0 0).read
theorem ξ76 (w : World) : ξ1j w (.agg #[.int .i64 0, .slice none 0 0, .int .i64 0, .slice none 0 0]) ⟨0, [], 0, []⟩ 4 :=
 ⟨none, 0, 0, none, 0, 0, rfl, ⟨[], ξ5t w 3 encRat, rfl, fun i t h => by simp at h⟩, ξ5t w 1 encI, rfl, rfl⟩
theorem ξ4K (w : World) (v : Int) : ξS w (nodeS v) (exS v) 4 :=
 ⟨rfl, rfl, rfl, ⟨[], ξ5t w 3 encRat, rfl, fun i t h => by simp at h⟩, rfl, ξ76 w⟩
theorem ξ3B {w : World} {p : Option Addr} {c : Nat} {u : RatM} {z : Int} (hs : Sz 4 (z : Rat)) (h1 : SlL w 3 encRat (.slice p 1 c) [u]) (h2 : RatC w u.v (z : Rat)) : ξS w (nodeF p c) (exF z) 4 :=
 ⟨rfl, rfl, rfl, ⟨[u], h1, rfl, fun i t h => by
  cases i with
  | zero =>
   simp at h
   subst h
   exact h2.v hs
  | succ i => simp at h⟩, rfl, ξ76 w⟩
theorem ξbw (v : Int) : ξT (exS v) := ξ01.2 (.inr (.inr (.inl ⟨rfl, ⟨rfl, rfl, rfl, rfl⟩, rfl⟩)))
theorem ξbv (z : Int) : ξT (exF z) := ξ01.2 (.inl ⟨rfl, ⟨rfl, rfl, rfl, rfl⟩, rfl, rfl⟩)
theorem sz1 {s : List UInt8} {z : Int} (hz : OneW s z) : Sz 4 (z : Rat) := by
 rcases hz with ⟨rfl, rfl⟩ | ⟨rfl, rfl⟩
 ·exact ⟨by decide +kernel, by decide +kernel⟩
 ·exact ⟨by decide +kernel, by decide +kernel⟩
theorem ξ5G (w : World) (v : Nat) (hv : v < 100) :
  Calls Tryz.prog 36 #[.agg (nodeA (nodeS v))] w (Ret w fun r w' => ∃ q d, r = .tuple #[.slice q 3 d, .bool true] ∧ ξ1A w' w.heap.size (.slice q 3 d) [wSplit, Lib.decDigits v, Lib.decDigits 0]) := by
 have HV := ξ hv
 clear hv
 have HB := ξ (ξ0.new w (nodeA (nodeS v)) 47)
 unfold nodeS at HB ⊢
 have c0 := HB.out.2.at 0 rfl
 have c1 := HB.out.2.at 1 rfl
 have c2 := HB.out.2.at 2 rfl
 have c3 := HB.out.2.at 3 rfl
 have c4 := HB.out.2.at 4 rfl
 have c5 := HB.out.2.at 5 rfl
 have c6 := HB.out.2.at 6 rfl
 have c7 := HB.out.2.at 7 rfl
 go_enter Tryz.func36, Tryz.ntmps36
 go_wp2_with fail
 clear c0 c1 c2 c3 c4 c5 c6 c7
 generalize w.heap.size = bn at HB ⊢
 generalize w.alloc _ = W at HB ⊢
 refine (ξ0E W (nodeS v) (exS v) 4 (ξ4K W v)).mono ?_
 rintro _ w2 ⟨r2, rfl, g2, h2⟩
 rcases h2.cases with ⟨rfl, k2⟩ | ⟨rfl, k2⟩
 rotate_left
 ·exact absurd (ξbw v) k2
 have HB := ξ (show Gr w w2 ∧ ξ0 w2 bn _ from ⟨HB.out.1.trans g2, HB.out.2.grow g2⟩)
 clear h2 k2 g2
 have HI := ξ (ξ0.new w2 #[.int .i64 (v : Int)] 3)
 have c0 := HB.out.2.at 0 rfl
 have c1 := HB.out.2.at 1 rfl
 have c2 := HB.out.2.at 2 rfl
 have c3 := HB.out.2.at 3 rfl
 have c4 := HB.out.2.at 4 rfl
 have c5 := HB.out.2.at 5 rfl
 have c6 := HB.out.2.at 6 rfl
 have c7 := HB.out.2.at 7 rfl
 go_wp2_with fail
 clear c0 c1 c2 c3 c4 c5 c6 c7
 generalize w2.heap.size = bi at HI ⊢
 generalize w2.alloc _ = W3 at HI ⊢
 have HB := ξ (show Gr w W3 ∧ ξ0 W3 bn _ from ⟨HB.out.1.trans HI.out.1, HB.out.2.grow HI.out.1⟩)
 have HSZ := ξ HB.out.1.size
 refine (ξ8z W3 (some ⟨bi, 0, none⟩) 1 v HV.out (ξ3t HI.out.2 rfl (by simp))).mono ?_
 rintro _ w4 ⟨r4, rfl, g4, q, d, rfl, ho⟩
 have HB := ξ (show Gr w w4 ∧ ξ0 w4 bn _ from ⟨HB.out.1.trans g4, HB.out.2.grow g4⟩)
 have HO := ξ (OwnL.low ho HSZ.out)
 clear ho g4
 have c0 := HB.out.2.at 0 rfl
 have c1 := HB.out.2.at 1 rfl
 have c2 := HB.out.2.at 2 rfl
 have c3 := HB.out.2.at 3 rfl
 have c4 := HB.out.2.at 4 rfl
 have c5 := HB.out.2.at 5 rfl
 have c6 := HB.out.2.at 6 rfl
 have c7 := HB.out.2.at 7 rfl
 go_wp2_with fail
 clear c0 c1 c2 c3 c4 c5 c6 c7
 refine (Tryz.strconv_FormatInt_10_small 0 (by decide) w4).mono ?_
 rintro _ w4 ⟨rfl, rfl⟩
 go_wp2_with (at_builtin; refine Hold.hold ?_)
 have BN := ξ (ξ48 w4 w.heap.size HB.out.1.size (Lib.decDigits 0))
 generalize w4.heap.size = bs at BN ⊢
 generalize w4.alloc _ = W5 at BN ⊢
 refine Hold.go ?_
 refine wpList_plain rfl (fun K hK => ?_)
 refine ξ2k _ _ rfl w.heap.size (.slice q 1 d) _ [Lib.decDigits v] [Lib.decDigits 0] rfl (HO.out.grow BN.out.1) rfl BN.out.2.read (by simp) (by have := HB.out.1.size; have := BN.out.1.size; omega) (by simp) ?_
 intro q2 d2 W6 ho6 g6
 have G6 := ξ (show Gr w W6 from OwnL.gr (HO.out.grow BN.out.1) (HB.out.1.trans BN.out.1) g6)
 have HO6 := ξ ho6
 clear ho6 g6
 refine hK _ _ ?_
 clear hK K
 go_wp2_with fail
 refine (ξ7W W6 wSplit q2 2 d2 [Lib.decDigits v, Lib.decDigits 0] true HO6.out.read rfl (by decide) (by decide)).mono ?_
 rintro _ w7 ⟨r7, rfl, g7, q7, d7, rfl, ho7⟩
 have G7 := ξ (G6.out.trans g7)
 have HO7 := ξ (OwnL.low ho7 G6.out.size)
 clear ho7 g7
 go_wp2_with fail
 try rw [Exit.noGoto_ret]
 refine bodyPost_ret (by simp [results, Tryz.results36, go_sem]; rfl) rfl ?_
 exact ⟨_, rfl, G7.out, q7, d7, rfl, HO7.out⟩
theorem ξ9r (w : World) (p : Option Addr) (c : Nat) (u : RatM) (s : List UInt8) (z : Int) (hz : OneW s z) (htab : Tab w) (hl : SlL w 3 encRat (.slice p 1 c) [u]) (hu : RatC w u.v (z : Rat)) :
  Calls Tryz.prog 36 #[.agg (nodeA (nodeF p c))] w (Ret w fun r w' => ∃ q d, r = .tuple #[.slice q 2 d, .bool true] ∧ ξ1A w' w.heap.size (.slice q 2 d) [wFarkas, s]) := by
 have HZ := ξ hz
 have HT := ξ htab
 have HL := ξ hl
 have HU := ξ hu
 clear hz htab hl hu
 have HB := ξ (ξ0.new w (nodeA (nodeF p c)) 47)
 unfold nodeF at HB ⊢
 have c0 := HB.out.2.at 0 rfl
 have c1 := HB.out.2.at 1 rfl
 have c2 := HB.out.2.at 2 rfl
 have c3 := HB.out.2.at 3 rfl
 have c4 := HB.out.2.at 4 rfl
 have c5 := HB.out.2.at 5 rfl
 have c6 := HB.out.2.at 6 rfl
 have c7 := HB.out.2.at 7 rfl
 go_enter Tryz.func36, Tryz.ntmps36
 go_wp2_with fail
 clear c0 c1 c2 c3 c4 c5 c6 c7
 generalize w.heap.size = bn at HB ⊢
 generalize w.alloc _ = W at HB ⊢
 refine (ξ0E W (nodeF p c) (exF z) 4 (ξ3B (sz1 HZ.out) (SlL.grow HL.out HB.out.1) (HU.out.grow HB.out.1))).mono ?_
 rintro _ w2 ⟨r2, rfl, g2, h2⟩
 rcases h2.cases with ⟨rfl, k2⟩ | ⟨rfl, k2⟩
 rotate_left
 ·exact absurd (ξbv z) k2
 have HB := ξ (show Gr w w2 ∧ ξ0 w2 bn _ from ⟨HB.out.1.trans g2, HB.out.2.grow g2⟩)
 clear h2 k2 g2
 have c0 := HB.out.2.at 0 rfl
 have c1 := HB.out.2.at 1 rfl
 have c2 := HB.out.2.at 2 rfl
 have c3 := HB.out.2.at 3 rfl
 have c4 := HB.out.2.at 4 rfl
 have c5 := HB.out.2.at 5 rfl
 have c6 := HB.out.2.at 6 rfl
 have c7 := HB.out.2.at 7 rfl
 go_wp2_with fail
 clear c0 c1 c2 c3 c4 c5 c6 c7
 refine (ξ6x w2 p c u s z HZ.out (HT.out.grow HB.out.1) (SlL.grow HL.out HB.out.1) (HU.out.grow HB.out.1)).mono ?_
 rintro _ w4 ⟨r4, rfl, g4, q, d, rfl, ho⟩
 have HO := ξ ho
 have G4 := ξ (HB.out.1.trans g4)
 clear ho g4
 go_wp2_with fail
 refine (ξ7W w4 wFarkas q 1 d [s] true HO.out.read rfl (by decide) (by decide)).mono ?_
 rintro _ w7 ⟨r7, rfl, g7, q7, d7, rfl, ho7⟩
 have G7 := ξ (G4.out.trans g7)
 have HO7 := ξ (OwnL.low ho7 G4.out.size)
 clear ho7 g7
 go_wp2_with fail
 try rw [Exit.noGoto_ret]
 refine bodyPost_ret (by simp [results, Tryz.results36, go_sem]; rfl) rfl ?_
 exact ⟨_, rfl, G7.out, q7, d7, rfl, HO7.out⟩
def ExX (w : World) (k : Nat) (x : ξb) : Prop :=
 (k = 0 ∧ x = nodeS 0) ∨ (k = 1 ∧ x = nodeS 1) ∨ (∃ s z p c u, ((k = 2 ∧ s = [49] ∧ z = 1) ∨ (k = 3 ∧ s = [45, 49] ∧ z = -1) ∨ (k = 4 ∧ s = [45, 49] ∧ z = -1)) ∧ OneW s z ∧ x = nodeF p c ∧ SlL w 3 encRat (.slice p 1 c) [u] ∧ RatC w u.v (z : Rat))
theorem ExX.grow {w w' : World} {k : Nat} {x : ξb} (h : ExX w k x) (g : Gr w w') : ExX w' k x := by
 rcases h with h | h | ⟨s, z, p, c, u, h1, h2, h3, h4, h5⟩
 ·exact .inl h
 ·exact .inr (.inl h)
 ·exact .inr (.inr ⟨s, z, p, c, u, h1, h2, h3, SlL.grow h4 g, h5.grow g⟩)
theorem ExX.node {w : World} {k : Nat} {x : ξb} {s : ξ6} (h : ExX w k x) (hs : exN[k]? = some s) : ξS w x s 4 := by
 rcases h with ⟨rfl, rfl⟩ | ⟨rfl, rfl⟩ | ⟨s, z, p, c, u, h1, h2, rfl, h4, h5⟩
 ·obtain rfl : exS 0 = s := by simpa [exN] using hs
  exact ξ4K w 0
 ·obtain rfl : exS 1 = s := by simpa [exN] using hs
  exact ξ4K w 1
 ·rcases h1 with ⟨rfl, rfl, rfl⟩ | ⟨rfl, rfl, rfl⟩ | ⟨rfl, rfl, rfl⟩
  ·obtain rfl : exF 1 = s := by simpa [exN] using hs
   exact ξ3B (sz1 h2) h4 h5
  ·obtain rfl : exF (-1) = s := by simpa [exN] using hs
   exact ξ3B (sz1 h2) h4 h5
  ·obtain rfl : exF (-1) = s := by simpa [exN] using hs
   exact ξ3B (sz1 h2) h4 h5
def ExL (w : World) (v : Value) (n : Nat) : Prop := ∃ T, SlL w 8 encNode v T ∧ T.length = n ∧ ∀ k x, T[k]? = some x → ExX w k x
theorem ExL.grow {w w' : World} {v : Value} {n : Nat} (h : ExL w v n) (g : Gr w w') : ExL w' v n := by
 obtain ⟨T, h1, h2, h3⟩ := h
 exact ⟨T, SlL.grow h1 g, h2, fun k x hx => (h3 k x hx).grow g⟩
theorem ExL.nodes {w : World} {v : Value} (h : ExL w v 5) : ξu w v exN 4 := by
 obtain ⟨T, h1, h2, h3⟩ := h
 exact ⟨T, h1, h2, fun k x s hx hs => (h3 k x hx).node hs⟩
theorem ξb4 (w : World) (k : Nat) (x : ξb) (hx : ExX w k x) (htab : Tab w) :
  Calls Tryz.prog 36 #[.agg (nodeA x)] w (Ret w fun r w' => ∃ q d, r = .tuple #[.slice q (exW k).length d, .bool true] ∧ ξ1A w' w.heap.size (.slice q (exW k).length d) (exW k)) := by
 rcases hx with ⟨rfl, rfl⟩ | ⟨rfl, rfl⟩ | ⟨s, z, p, c, u, h1, h2, rfl, h4, h5⟩
 ·have h := ξ5G w 0 (by decide)
  rw [ξb8] at h
  exact h
 ·have h := ξ5G w 1 (by decide)
  rw [ξb8, ξcT] at h
  exact h
 ·rcases h1 with ⟨rfl, rfl, rfl⟩ | ⟨rfl, rfl, rfl⟩ | ⟨rfl, rfl, rfl⟩ <;> exact ξ9r w p c u _ _ h2 htab h4 h5
theorem ξc4 (w : World) (base k : Nat) (hk : k < 5) (q : Option Addr) (d : Nat) (ho : ξ1A w base (.slice q (exW k).length d) (exW k)) :
  Calls Tryz.prog 37 #[.slice q (exW k).length d, .string ⟨#[32]⟩] w (Ret w fun r _ => r = .string ⟨(exJ k).toArray⟩) := by
 have hp := ξbp k hk
 obtain ⟨bk, o, x, rfl, -, -⟩ := SlL.at1 (enc := encS) ξ4w ho.read rfl (k := 0) hp.2
 have hc : ∀ (j : Nat) (y : List UInt8), (exW k)[j]? = some y → w.cell? ⟨bk, o + j, none⟩ = some (.string ⟨y.toArray⟩) := fun j y hy => by
  obtain ⟨b2, o2, y2, e, hy2, hc⟩ := SlL.at1 (enc := encS) ξ4w ho.read rfl (k := j) (List.getElem?_eq_some_iff.1 hy).1
  cases e
  obtain rfl : y = y2 := Option.some.inj (hy.symm.trans hy2)
  exact hc _ rfl w (Gr.refl w)
 obtain ⟨p', c', e, h1, h2⟩ := ho.read.parts
 cases e
 have hlt := World.block_lt_of_cell? (w := w) _ (hc 0 _ (List.getElem?_eq_getElem hp.2))
 have e1 : ((exW k).map fun s => (⟨s.toArray⟩ : ByteArray)).length = (exW k).length := by simp
 have e2 : (((exW k).map fun s => (⟨s.toArray⟩ : ByteArray)).map (·.data.toList)) = exW k := by
  rw [List.map_map]
  exact (List.map_congr_left fun a _ => by show a.toArray.toList = id a; simp).trans (List.map_id _)
 have h := Tryz.strings_Join bk o d ((exW k).map fun s => (⟨s.toArray⟩ : ByteArray)) ⟨#[32]⟩ w (fun j x hx => by
  rw [List.getElem?_map] at hx
  obtain ⟨y, hy, rfl⟩ := Option.map_eq_some_iff.1 hx
  exact hc j y hy) hlt (by omega) (by omega) (by rw [e2]; show (Lib.join (exW k) [32]).length ≤ _; rw [ξ6Z k hk]; have := ξ47 k; omega)
 rw [e1, e2] at h
 refine h.mono ?_
 rintro _ w' ⟨rfl, g⟩
 refine ⟨_, rfl, g, ?_⟩
 show Value.string ⟨(Lib.join (exW k) [32]).toArray⟩ = _
 rw [ξ6Z k hk]
theorem ξ7Z (a b : List UInt8) : (⟨a.toArray⟩ : ByteArray) ++ ⟨b.toArray⟩ = ⟨(a ++ b).toArray⟩ := by
 apply ByteArray.ext
 simp
theorem ξ5C (w : World) (p : Option Addr) (c : Nat) (h : ExL w (.slice p 5 c) 5) (htab : Tab w) :
  Calls Tryz.prog 19 #[.slice p 5 c] w (Ret w fun r _ => r = .string ⟨exText.toArray⟩) := by
 have HX := ξ h
 have HT := ξ htab
 clear h htab
 go_enter Tryz.func19, Tryz.ntmps19
 go_wp2_with fail
 refine (ξ7M w p 5 c rfl HX.out.nodes ξ8l (by decide)).mono ?_
 rintro _ w1 ⟨_, rfl, g1, rfl⟩
 have G := ξ g1
 clear g1
 obtain ⟨T, hT, hTl, hTx⟩ := HX.out
 have HX := ξ hT
 have HTL := ξ hTl
 have HTX := ξ hTx
 clear hT hTl hTx
 go_wp2_with fail
 go_loopw [5, 19] (fun s i w9 => ∃ (k : Nat) (W1 : World), W1 = w9 ∧ i = .int .i64 (k : Int) ∧ k ≤ 5 ∧ Gr w W1 ∧ s = .string ⟨(exTx k).toArray⟩) (fun _ i _ => 5 - (RowKit.intOf i).toNat)
 case atStart => exact ⟨0, _, rfl, rfl, by omega, G.out, rfl⟩
 case round =>
  obtain ⟨k, W1, rfl, rfl, hk, hg, rfl⟩ := hrel
  have G := ξ hg
  clear hg
  by_cases hk5 : k < 5
  ·obtain ⟨b, o, x, rfl, hx, hc⟩ := SlL.at ξp HX.out HTL.out hk5
   have HN := ξ (HTX.out k x hx)
   have c0 := hc 0 _ rfl _ G.out
   have c1 := hc 1 _ rfl _ G.out
   have c2 := hc 2 _ rfl _ G.out
   have c3 := hc 3 _ rfl _ G.out
   have c4 := hc 4 _ rfl _ G.out
   have c5 := hc 5 _ rfl _ G.out
   have c6 := hc 6 _ rfl _ G.out
   have c7 := hc 7 _ rfl _ G.out
   rw [Nat.add_zero] at c0
   have HB := ξ (ξ0.new W1 (nodeA x) 47)
   have d0 := HB.out.2.at 0 rfl
   have d1 := HB.out.2.at 1 rfl
   have d2 := HB.out.2.at 2 rfl
   have d3 := HB.out.2.at 3 rfl
   have d4 := HB.out.2.at 4 rfl
   have d5 := HB.out.2.at 5 rfl
   have d6 := HB.out.2.at 6 rfl
   have d7 := HB.out.2.at 7 rfl
   clear hx hc
   go_wp2_with fail
   clear c0 c1 c2 c3 c4 c5 c6 c7 d0 d1 d2 d3 d4 d5 d6 d7
   generalize W1.alloc _ = W2 at HB ⊢
   have G2 := ξ (G.out.trans HB.out.1)
   refine (ξb4 W2 k x (HN.out.grow G2.out) (HT.out.grow G2.out)).mono ?_
   rintro _ w3 ⟨_, rfl, g3, q, d, rfl, ho⟩
   have G3 := ξ (G2.out.trans g3)
   have HO := ξ ho
   clear g3 ho
   go_wp2_with fail
   refine (ξc4 w3 _ k hk5 q d HO.out).mono ?_
   rintro _ w4 ⟨_, rfl, g4, rfl⟩
   have G4 := ξ (G3.out.trans g4)
   clear g4
   have h1 := ξ77 k
   have h2 := ξ47 k
   have hb1 : ¬ 9223372036854775807 < (exJ k).length + 1 := by omega
   have hb2 : ¬ 9223372036854775807 < (exTx k).length + ((exJ k).length + 1) := by omega
   have ha1 : (⟨(exJ k).toArray⟩ : ByteArray) ++ ⟨#[10]⟩ = ⟨(exJ k ++ [10]).toArray⟩ := ξ7Z _ [10]
   have ha2 : (⟨(exTx k).toArray⟩ : ByteArray) ++ ⟨(exJ k ++ [10]).toArray⟩ = ⟨(exTx (k + 1)).toArray⟩ := ξ7Z _ _
   go_wp2_with fail
   exact ⟨⟨k + 1, _, rfl, by go_num, by omega, G4.out, rfl⟩, by simp [RowKit.intOf]; omega⟩
  ·obtain rfl : k = 5 := by omega
   go_wp2_with fail
   go_ret
   exact ⟨_, rfl, G.out, by first | rfl | (rw [ξcA]; rfl) | simp⟩
section
variable {α : Type} {enc : α → List Value} {sz : Nat}
def OwnU (w : World) (base : Nat) (e : TypeId) (sz : Nat) (enc : α → List Value) (v : Value) (l : List α) : Prop := OwnL w base e sz enc v l ∧ ∀ g, v.ownBlock = some g → NoU w g
theorem OwnU.nil (w : World) (base : Nat) (e : TypeId) : OwnU w base e sz enc (.slice none 0 0) [] := ⟨OwnL.nil w base _, fun g h => by cases h⟩
theorem OwnU.grow {w w' : World} {base : Nat} {e : TypeId} {v : Value} {l : List α} (h : OwnU w base e sz enc v l) (g : Gr w w') : OwnU w' base e sz enc v l := by
 refine ⟨h.1.grow g, fun b hb => ?_⟩
 obtain ⟨a, t, h1, h2⟩ := h.2 b hb
 have hlt := (World.ownsRow.lt h.1 b hb).2
 exact ⟨a, t, by rw [Below.block g b hlt]; exact h1, h2⟩
theorem OwnU.kept {w w' : World} {base : Nat} {e : TypeId} {v : Value} {l : List α} {row : Option Nat} (h : OwnU w base e sz enc v l) (hg : w.grownBy w' row) (hne : ∀ g, v.ownBlock = some g → some g ≠ row) : OwnU w' base e sz enc v l := by
 refine ⟨World.ownsRow.kept h.1 hg ?_, fun g hb => ?_⟩
 ·cases hv : v.ownBlock with
  | none => exact .inl rfl
  | some g => exact .inr (hne g hv)
 ·obtain ⟨a, t, h1, h2⟩ := h.2 g hb
  have hlt := (World.ownsRow.lt h.1 g hb).2
  exact ⟨a, t, (hg.block g hlt (hne g hb)).trans h1, h2⟩
theorem ξ52 (t e ty : TypeId) (z : Value) (bytes : Nat) (ht : Tryz.prog.underlying t = some (.slice e)) (hinfo : (Tryz.prog.info? e).map (fun i => (i.zero, i.size, i.bytes)) = some (some z, sz, bytes)) (hzs : z.cells.size = sz) (hsz : 0 < sz) (hby : bytes ≤ 1000)
  (he : ∀ x, (enc x).length = sz) (h1c : ∀ x, ∀ u ∈ enc x, u.oneCell' = true) (hu : ∀ x, ∀ u ∈ enc x, ∀ k, u ≠ Value.int .u32 k) (hz : ∀ n, ∀ u ∈ Builtin.zeroCells z.cells n, ∀ k, u ≠ Value.int .u32 k)
  (w : World) (base : Nat) (v vx : Value) (l : List α) (x : α) (hown : OwnU w base e sz enc v l) (hm : SlL w sz enc vx [x]) (hlen : l.length ≤ 1000000) (hbase : base ≤ w.heap.size) :
  ∃ v' w', (Builtin.append_ #[t, t] ty #[v, vx]).run Tryz.prog w = .ok v' w' ∧ OwnU w' base e sz enc v' (l ++ [x]) ∧ w.grownBy w' v.ownBlock ∧ Dk w w' ∧ (v'.ownBlock = v.ownBlock ∨ v'.ownBlock = some w.heap.size) := by
 have hb1 : (l.length + 1) * bytes ≤ 140737488355328 := Nat.le_trans (Nat.mul_le_mul_left _ hby) (by omega)
 obtain ⟨v', w', hr, h1, h2, h3⟩ := ξ1E (ty := ty) t e z bytes ht hinfo hzs hsz he h1c base v vx l [x] hown.1 hm (by simpa using hb1) (by simp; omega) hbase (by simp)
 refine ⟨v', w', hr, ⟨h1, fun g hg => ?_⟩, h2, Dk.grown h2 hown.2, h3⟩
 have hul : ∀ (m : List α), ∀ u ∈ m.flatMap enc, ∀ k, u ≠ Value.int .u32 k := fun m u hm => by
  obtain ⟨y, _, hy⟩ := List.mem_flatMap.1 hm
  exact hu y u hy
 obtain ⟨i0, hi, hz0, hz1, hz2⟩ := info_parts hinfo
 obtain ⟨hd, p, c, rfl, k1, k2, k3⟩ := hm
 rcases k3 with rfl | ⟨b, off, rfl, hc⟩
 ·simp at k1
 have hnews : ∀ j u, (([x] : List α).flatMap enc)[j]? = some u → w.cell? ((⟨b, off, none⟩ : Addr).add j) = some u := fun j u hu => by rw [ξ13]; exact hc j u hu
 have hml : (([x] : List α).flatMap enc).length = 1 * i0.size := by rw [hz1]; exact ξU he [x]
 have hu1 := hul [x]
 rcases hown.1.2 with ⟨rfl, h0⟩ | ⟨g0, cap, cur, rfl, hbg, hg0, hnc, hcm, hcs, htake⟩
 ·have hr2 := run_append_nil (P := Tryz.prog) w t ty e i0 _ ht hi hz0 ⟨b, off, none⟩ 1 c _ hml hnews (by omega) (by omega) (by rw [hz2]; omega)
  have e1 := hr.symm.trans hr2
  injection e1 with e2 e3
  subst e2 e3
  obtain rfl : w.heap.size = g := by simpa [Value.ownBlock] using hg
  refine ⟨_, _, heap_alloc_new w.drew _, fun i z e => ?_⟩
  rcases Array.mem_append.1 (Array.mem_of_getElem? e) with h | h
  ·exact hu1 _ (by simpa using h) z rfl
  ·exact hz _ _ h z rfl
 ·by_cases hroom : l.length + 1 ≤ cap
  ·have hfit : l.length * i0.size + (([x] : List α).flatMap enc).length ≤ cur.size := by
    have := Nat.mul_le_mul_right sz hroom
    rw [hml, hcs, hz1, ← Nat.add_mul]; exact this
   have hr2 := run_append_room (P := Tryz.prog) w t ty e i0 ht hi g0 l.length cap cur hg0 ⟨b, off, none⟩ 1 c _ hml hnews (fun u hu => h1c x u (by simpa using hu)) hroom hfit
   have e1 := hr.symm.trans hr2
   injection e1 with e2 e3
   subst e2 e3
   obtain rfl : g0 = g := by simpa [Value.ownBlock] using hg
   obtain ⟨a, ta, ha1, ha2⟩ := hown.2 g0 rfl
   rw [hg0] at ha1
   injection ha1 with ha1
   injection ha1 with q1 q2 q3
   subst q1
   refine ⟨(cur.toList.take (l.length * i0.size) ++ ([x] : List α).flatMap enc ++ cur.toList.drop (l.length * i0.size + (([x] : List α).flatMap enc).length)).toArray, e, by simp [World.setRow, Array.getElem?_modify, hg0], fun i z e => ?_⟩
   have hmem := Array.mem_of_getElem? e
   rw [List.mem_toArray] at hmem
   rcases List.mem_append.1 hmem with h | h
   ·rcases List.mem_append.1 h with h | h
    ·obtain ⟨j, hj, hje⟩ := List.getElem_of_mem (List.mem_of_mem_take h)
     exact ha2 j z (by rw [← hje]; simp at hj; simp [hj])
    ·exact hu1 _ h z rfl
   ·obtain ⟨j, hj, hje⟩ := List.getElem_of_mem (List.mem_of_mem_drop h)
    exact ha2 j z (by rw [← hje]; simp at hj; simp [hj])
  ·have holds : ∀ j u, (l.flatMap enc)[j]? = some u → w.cell? ((⟨g0, 0, none⟩ : Addr).add j) = some u := World.ownsRow.cells (show w.ownsRow base e sz _ l.length (l.flatMap enc) from hown.1) (g := g0) rfl
   have hr2 := run_append_grow (P := Tryz.prog) w t ty e i0 _ ht hi hz0 ⟨g0, 0, none⟩ l.length cap _ (by rw [hz1]; exact ξU he l) holds ⟨b, off, none⟩ 1 c _ hml hnews (by omega) (by omega) (growslice_fits (by omega) (by rw [hz2]; exact hb1))
   have e1 := hr.symm.trans hr2
   injection e1 with e2 e3
   subst e2 e3
   obtain rfl : w.heap.size = g := by simpa [Value.ownBlock] using hg
   refine ⟨_, _, heap_alloc_new w.drew _, fun i z e => ?_⟩
   rcases Array.mem_append.1 (Array.mem_of_getElem? e) with h | h
   ·rcases Array.mem_append.1 h with h | h
    ·exact hul l _ (by simpa using h) z rfl
    ·exact hu1 _ (by simpa using h) z rfl
   ·exact hz _ _ h z rfl
end
theorem ξcc (n : Nat) : ∀ u ∈ Builtin.zeroCells (Value.agg #[.bool false, .slice none 0 0, .slice none 0 0]).cells n, ∀ z, u ≠ Value.int .u32 z := fun u hu z => by
 obtain ⟨i, _, rfl⟩ := Array.mem_map.1 hu
 have h3 : i % 3 = 0 ∨ i % 3 = 1 ∨ i % 3 = 2 := by omega
 simp only [Value.cells]
 rcases h3 with h | h | h <;> simp [h, Value.cells]
theorem ξaY : ∀ x, ∀ u ∈ encRat x, ∀ z, u ≠ Value.int .u32 z := fun x u hu z => by
 simp [encRat] at hu
 rcases hu with rfl | rfl | rfl <;> (intro h; cases h)
theorem ξ7C : ∀ x, ∀ u ∈ encRat x, u.oneCell' = true := fun x u hu => by
 simp [encRat] at hu
 rcases hu with rfl | rfl | rfl <;> rfl
theorem ξ9X : (Tryz.prog.info? 68).map (fun i => (i.zero, i.size, i.bytes)) = some (some (.agg #[.bool false, .slice none 0 0, .slice none 0 0]), 3, 56) := by kernel_rfl
structure ξ21 (w : World) (base : Nat) (v : Value) (xs : List Rat) (L : Nat) : Prop where
 ex : ∃ T : List RatM, OwnU w base 68 3 encRat v T ∧ T.length = xs.length ∧ ∀ (i : Nat) (t : RatM), T[i]? = some t → RatV w t.v (atQ xs i) L
theorem ξ21.grow {w w' : World} {base : Nat} {v : Value} {xs : List Rat} {L : Nat} (h : ξ21 w base v xs L) (g : Gr w w') : ξ21 w' base v xs L := by
 obtain ⟨T, h1, h2, h3⟩ := h.ex
 exact ⟨T, h1.grow g, h2, fun i t ht => (h3 i t ht).grow g⟩
theorem ξ21.nil (w : World) (base L : Nat) : ξ21 w base (.slice none 0 0) [] L := ⟨[], OwnU.nil _ _ _, rfl, fun i t h => by simp at h⟩
theorem ξ21.read {w : World} {base : Nat} {v : Value} {xs : List Rat} {L : Nat} (h : ξ21 w base v xs L) : ξ1D w v xs L := by
 obtain ⟨T, h1, h2, h3⟩ := h.ex
 exact ⟨T, h1.1.read, h2, h3⟩
theorem ξ21.push {w : World} {base : Nat} {v vx : Value} {xs : List Rat} {L : Nat} {x : Rat} {u : RatM} (ty : TypeId) (h : ξ21 w base v xs L) (hm : SlL w 3 encRat vx [u]) (hx : RatV w u.v x L) (hl : xs.length ≤ 1000000) (hb : base ≤ w.heap.size) :
  ∃ v' w', (Builtin.append_ #[33, 33] ty #[v, vx]).run Tryz.prog w = .ok v' w' ∧ ξ21 w' base v' (xs ++ [x]) L ∧ w.grownBy w' v.ownBlock ∧ Dk w w' := by
 obtain ⟨T, h1, h2, h3⟩ := h.ex
 obtain ⟨v', w', hr, k1, k2, k3, k4⟩ := ξ52 33 68 ty _ 56 Tryz.underlying33 ξ9X rfl (by decide) (by decide) ξR ξ7C ξaY ξcc w base v vx T u h1 hm (by omega) hb
 refine ⟨v', w', hr, ⟨T ++ [u], k1, by simp [h2], fun i t ht => ?_⟩, k2, k3⟩
 by_cases hi : i < T.length
 ·rw [List.getElem?_append_left hi] at ht
  have e : atQ (xs ++ [x]) i = atQ xs i := by unfold atQ; rw [List.getElem?_append_left (by omega)]
  rw [e]
  exact ξ5u (h3 i t ht) k3
 ·rw [List.getElem?_append_right (by omega)] at ht
  have h0 : i - T.length = 0 := by
   rcases Nat.eq_zero_or_pos (i - T.length) with h | h
   ·exact h
   ·rw [List.getElem?_eq_none (by simp; omega)] at ht; cases ht
  rw [h0] at ht
  cases ht
  have e : atQ (xs ++ [x]) i = x := by
   unfold atQ
   rw [List.getElem?_append_right (by omega), show i - xs.length = 0 by omega]
   rfl
  rw [e]
  exact ξ5u hx k3
theorem ξ9k : ∀ (l : List ξb), ∀ u ∈ l.flatMap encNode, ∀ z, u ≠ Value.int .u32 z := fun l u hu z => by
 obtain ⟨t, _, ht⟩ := List.mem_flatMap.1 hu
 simp [encNode] at ht
 rcases ht with rfl | rfl | rfl | rfl | rfl | rfl | rfl | rfl <;> (intro h; cases h)
theorem ξbo (n : Nat) : ∀ u ∈ Builtin.zeroCells (Value.agg nodeZ).cells n, ∀ z, u ≠ Value.int .u32 z := fun u hu z => by
 obtain ⟨i, _, rfl⟩ := Array.mem_map.1 hu
 have h3 : i % 8 = 0 ∨ i % 8 = 1 ∨ i % 8 = 2 ∨ i % 8 = 3 ∨ i % 8 = 4 ∨ i % 8 = 5 ∨ i % 8 = 6 ∨ i % 8 = 7 := by omega
 simp only [Value.cells]
 rcases h3 with h | h | h | h | h | h | h | h <;> simp [h, Value.cells]
abbrev ξ2z (w : World) (base : Nat) (v : Value) (l : List ξb) : Prop := OwnU w base 47 8 encNode v l
theorem ξ8X : (Tryz.prog.info? 47).map (fun i => (i.zero, i.size, i.bytes)) = some (some (.agg nodeZ), 8, 112) := by kernel_rfl
theorem ξ7t : ∀ x, ∀ u ∈ encNode x, u.oneCell' = true := fun x u hu => by
 simp [encNode] at hu
 rcases hu with rfl | rfl | rfl | rfl | rfl | rfl | rfl | rfl <;> rfl
theorem ξ2z.nil (w : World) (base : Nat) : ξ2z w base (.slice none 0 0) [] := ⟨OwnL.nil w base _, fun g h => by cases h⟩
theorem ξ7J (w : World) (base : Nat) (v vx : Value) (l : List ξb) (t : ξb) (ty : TypeId) (hown : ξ2z w base v l) (hm : SlL w 8 encNode vx [t]) (hlen : l.length ≤ 1000) (hbase : base ≤ w.heap.size) :
  ∃ v' w', (Builtin.append_ #[26, 26] ty #[v, vx]).run Tryz.prog w = .ok v' w' ∧ ξ2z w' base v' (l ++ [t]) ∧ w.grownBy w' v.ownBlock ∧ Dk w w' ∧ (v'.ownBlock = v.ownBlock ∨ v'.ownBlock = some w.heap.size) :=
 ξ52 26 47 ty _ 112 Tryz.underlying26 ξ8X rfl (by decide) (by decide) ξp ξ7t (fun x u hu => ξ9k [x] u (by simpa using hu)) ξbo w base v vx l t hown hm (by omega) hbase
def NoD (w : World) (b : Nat) : Prop := ∀ (o : Nat) (z : Int), w.cell? ⟨b, o, none⟩ ≠ some (.int .u32 z)
theorem NoU.d {w : World} {b : Nat} (h : NoU w b) : NoD w b := fun o z => h.cell
theorem NoD.obj {w : World} {b : Nat} {o : Obj} (h : w.heap[b]? = some o) (ho : o.isCells = false) : NoD w b := fun i z e => by
 obtain ⟨o', h1, h2⟩ := cells_of_cell e
 rw [h] at h1
 cases h1
 rw [ho] at h2; cases h2
theorem Dk.grownD {w w' : World} {row : Option Nat} (hg : w.grownBy w' row) (hr : ∀ g, row = some g → NoD w g) : Dk w w' := fun x o z h => by
 have hlt := World.block_lt_of_cell? (w := w) _ h
 have hne : some x ≠ row := fun e => hr x e.symm o z h
 rw [World.cell?_of_block (w := w) (hg.block x hlt hne)]
 exact h
theorem ExX.kept {W W' : World} {row : Option Nat} {k : Nat} {x : ξb} (h : ExX W k x) (hg : W.grownBy W' row) (hd : Dk W W') (hne : ∀ a, x.mp = some a → some a.block ≠ row) : ExX W' k x := by
 rcases h with h | h | ⟨s, z, p, c, u, h1, h2, rfl, h4, h5⟩
 ·exact .inl h
 ·exact .inr (.inl h)
 ·exact .inr (.inr ⟨s, z, p, c, u, h1, h2, rfl, SlL.grownA h4 hg hne, ξ2y h5 hd⟩)
structure ExO (W : World) (n0 : Nat) (v : Value) (T : List ξb) : Prop where
 own : ξ2z W n0 v T
 each : ∀ k x, T[k]? = some x → ExX W k x ∧ ∀ a, x.mp = some a → n0 ≤ a.block ∧ a.block < W.heap.size ∧ v.ownBlock ≠ some a.block
theorem ExO.kept {W W' : World} {row : Option Nat} {n0 : Nat} {v : Value} {T : List ξb} (h : ExO W n0 v T) (hg : W.grownBy W' row) (hd : ∀ r, row = some r → NoD W r) (hr : ∀ r, row = some r → r < n0 ∨ ∃ o : Obj, W.heap[r]? = some o ∧ o.isCells = false) : ExO W' n0 v T := by
 have hown : ∀ g, v.ownBlock = some g → n0 ≤ g ∧ g < W.heap.size ∧ some g ≠ row := fun g e => by
  have h1 := h.own.1.lt g e
  refine ⟨h1.1, h1.2, fun e2 => ?_⟩
  rcases hr g e2.symm with h2 | ⟨o, h2, h3⟩
  ·omega
  ·obtain ⟨a, t, h4, _⟩ := h.own.2 g e
   rw [h2] at h4
   cases h4
   cases h3
 refine ⟨⟨World.ownsRow.kept h.own.1 hg ?_, fun g e => ?_⟩, fun k x hx => ?_⟩
 ·cases e : v.ownBlock with
  | none => exact .inl rfl
  | some g => exact .inr (hown g e).2.2
 ·obtain ⟨a, t, h1, h2⟩ := h.own.2 g e
  have := hown g e
  exact ⟨a, t, (hg.block g this.2.1 this.2.2).trans h1, h2⟩
 ·obtain ⟨h1, h2⟩ := h.each k x hx
  refine ⟨h1.kept hg (Dk.grownD hg hd) (fun a ha e => ?_), fun a ha => ⟨(h2 a ha).1, Nat.lt_of_lt_of_le (h2 a ha).2.1 hg.size, (h2 a ha).2.2⟩⟩
  rcases hr _ e.symm with h3 | ⟨o, h3, h4⟩
  ·have := (h2 a ha).1; omega
  ·rcases h1 with ⟨_, rfl⟩ | ⟨_, rfl⟩ | ⟨s, z, p, c, u, _, _, rfl, h5, _⟩
   ·cases ha
   ·cases ha
   ·obtain ⟨b, o', y, hp, hy, hc⟩ := SlL.at ξR h5 rfl (k := 0) (by decide)
    have hp' : p = some a := ha
    rw [hp] at hp'
    cases hp'
    obtain ⟨o2, k1, k2⟩ := cells_of_cell (hc 0 _ rfl W (Gr.refl W))
    rw [h3] at k1
    cases k1
    rw [h4] at k2; cases k2
theorem ξ87 {W W' : World} (g : Gr W W') : W.grownBy W' none := ⟨g.os, g.tape, g.output, g.size, fun k hk _ => Below.block g k hk⟩
theorem ExO.grow {W W' : World} {n0 : Nat} {v : Value} {T : List ξb} (h : ExO W n0 v T) (g : Gr W W') : ExO W' n0 v T :=
 h.kept (ξ87 g) (fun r e => by cases e) (fun r e => by cases e)
theorem ExX.lt {W : World} {k : Nat} {x : ξb} {a : Addr} (h : ExX W k x) (ha : x.mp = some a) : a.block < W.heap.size := by
 rcases h with ⟨_, rfl⟩ | ⟨_, rfl⟩ | ⟨s, z, p, c, u, _, _, rfl, h5, _⟩
 ·cases ha
 ·cases ha
 ·obtain ⟨b, o', y, hp, hy, hc⟩ := SlL.at ξR h5 rfl (k := 0) (by decide)
  have hp' : p = some a := ha
  rw [hp] at hp'
  cases hp'
  exact World.block_lt_of_cell? (w := W) _ (hc 0 _ rfl W (Gr.refl W))
theorem ExO.push {W : World} {n0 : Nat} {v vx : Value} {T : List ξb} {x : ξb} (ty : TypeId) (h : ExO W n0 v T) (hx : ExX W T.length x) (hxa : ∀ a, x.mp = some a → n0 ≤ a.block ∧ v.ownBlock ≠ some a.block) (hm : SlL W 8 encNode vx [x]) (hlen : T.length ≤ 1000) (hb : n0 ≤ W.heap.size) :
  ∃ v' w', (Builtin.append_ #[26, 26] ty #[v, vx]).run Tryz.prog W = .ok v' w' ∧ ExO w' n0 v' (T ++ [x]) ∧ W.grownBy w' v.ownBlock := by
 obtain ⟨v', w', hr, h1, h2, h3, h4⟩ := ξ7J W n0 v vx T x ty h.own hm hlen hb
 have far : ∀ a : Addr, a.block < W.heap.size → v.ownBlock ≠ some a.block → v'.ownBlock ≠ some a.block := fun a h5 h6 h7 => by
  rcases h4 with h8 | h8
  ·exact h6 (h8.symm.trans h7)
  ·rw [h8] at h7
   have := Option.some.inj h7
   omega
 refine ⟨v', w', hr, ⟨h1, fun k y hy => ?_⟩, h2⟩
 by_cases hi : k < T.length
 ·rw [List.getElem?_append_left hi] at hy
  obtain ⟨k1, k2⟩ := h.each k y hy
  exact ⟨k1.kept h2 h3 (fun a ha e => (k2 a ha).2.2 e.symm), fun a ha => ⟨(k2 a ha).1, Nat.lt_of_lt_of_le (k2 a ha).2.1 h2.size, far a (k2 a ha).2.1 (k2 a ha).2.2⟩⟩
 ·rw [List.getElem?_append_right (by omega)] at hy
  have h0 : k - T.length = 0 := by
   rcases Nat.eq_zero_or_pos (k - T.length) with h | h
   ·exact h
   ·rw [List.getElem?_eq_none (by simp; omega)] at hy; cases hy
  rw [h0] at hy
  cases hy
  obtain rfl : k = T.length := by omega
  exact ⟨hx.kept h2 h3 (fun a ha e => (hxa a ha).2 e.symm), fun a ha => ⟨(hxa a ha).1, Nat.lt_of_lt_of_le (hx.lt ha) h2.size, far a (hx.lt ha) (hxa a ha).2⟩⟩
theorem ExO.list {W : World} {n0 : Nat} {v : Value} {T : List ξb} {n : Nat} (h : ExO W n0 v T) (hn : T.length = n) : ExL W v n := ⟨T, h.own.1.read, hn, fun k x hx => (h.each k x hx).1⟩
theorem ξ3J {F : Fence} {n : Nat} {P : Program} {w : World} {ops : Array Oper} {rest : List Oper} {o : Oper} {a : Act} {Q : Exit → Act → World → Prop} (hg : o.guard = none) (s x : Operand) (t : TypeId)
  (hop : o.op = Op.call { callee := Callee.builtin Builtin.append, args := #[s, x], argTypes := #[t, t] }) (v vx v' : Value) (w' : World) (hs : a.eval s = v) (hx : a.eval x = vx) (hrun : (Builtin.append_ #[t, t] o.type #[v, vx]).run P w = .ok v' w')
  (h : wpListIn F n P ops Q rest (a.put o.dst v') w') : wpListIn F n P ops Q (o :: rest) a w := by
 refine wpListIn_plain hg fun K hK' => ?_
 unfold Oper.wpIn
 refine ⟨?_, ?_⟩
 ·simp [Oper.about, hop, resolve, Target.leads, Sem.run_pure]
 ·rw [Oper.semAt_plain F _ _ (by rw [hop]; intro c hc'; cases hc')]
  simp [execOp, hop, resolve, invoke, builtin, hs, hx, hrun, Result.andThen]
  exact hK' _ _ h
end Prf
end Go.Proofs.YtcjgimlcefhhmaaGreatDoor
