/- Texts: PxE PyA PxF PxG PyD. -/
import Derived.Test.YtcjgimlcefhhmaaGreatDoorW12
import Derived.Test.YtcjgimlcefhhmaaGreatDoorW15
import Derived.Test.YtcjgimlcefhhmaaGreatDoorW26
import Derived.Test.YtcjgimlcefhhmaaGreatDoorW31
import Derived.Test.YtcjgimlcefhhmaaGreatDoorW43
import Derived.Test.YtcjgimlcefhhmaaGreatDoorW46
set_option linter.unusedVariables false
set_option linter.unusedSimpArgs false
set_option maxRecDepth 100000
set_option maxHeartbeats 12800000
namespace Go.Proofs.YtcjgimlcefhhmaaGreatDoor
namespace Prf
open Go.RowKit Go.Lib
def set8 (w : World) (b : Nat) (u0 u1 u2 u3 u4 u5 u6 u7 : Value) : World := (((((((w.setCell ⟨b, 0, none⟩ u0).setCell ⟨b, 1, none⟩ u1).setCell ⟨b, 2, none⟩ u2).setCell ⟨b, 3, none⟩ u3).setCell ⟨b, 4, none⟩ u4).setCell ⟨b, 5, none⟩ u5).setCell ⟨b, 6, none⟩ u6).setCell ⟨b, 7, none⟩ u7
theorem fill8 {w : World} {b : Nat} {x0 x1 x2 x3 x4 x5 x6 x7 : Value} (u0 u1 u2 u3 u4 u5 u6 u7 : Value) (h : ξ0 w b #[x0, x1, x2, x3, x4, x5, x6, x7]) :
  w.grownBy (set8 w b u0 u1 u2 u3 u4 u5 u6 u7) (some b) ∧ ξ0 (set8 w b u0 u1 u2 u3 u4 u5 u6 u7) b #[u0, u1, u2, u3, u4, u5, u6, u7] ∧ Upd b w (set8 w b u0 u1 u2 u3 u4 u5 u6 u7) := by
 unfold set8
 refine ⟨?_, ?_, fun i hi => ?_⟩
 ·exact ξg.trans (ξg.trans (ξg.trans (ξg.trans (ξg.trans (ξg.trans (ξg.trans (ξg.set b w 0 u0) (ξg.set b _ 1 u1)) (ξg.set b _ 2 u2)) (ξg.set b _ 3 u3)) (ξg.set b _ 4 u4)) (ξg.set b _ 5 u5)) (ξg.set b _ 6 u6)) (ξg.set b _ 7 u7)
 ·have := (((((((h.set 0 u0).set 1 u1).set 2 u2).set 3 u3).set 4 u4).set 5 u5).set 6 u6).set 7 u7
  simpa using this
 ·rw [Below.heap_setCell _ _ _ _ hi, Below.heap_setCell _ _ _ _ hi, Below.heap_setCell _ _ _ _ hi, Below.heap_setCell _ _ _ _ hi, Below.heap_setCell _ _ _ _ hi, Below.heap_setCell _ _ _ _ hi, Below.heap_setCell _ _ _ _ hi, Below.heap_setCell _ _ _ _ hi]
structure ξ1N (w0 w : World) (bx br bn : Nat) (wv : Value) (nv : Array Value) : Prop where
 g : Gr w0 w
 x : ξ0 w bx #[.pointer (some ⟨br, 0, none⟩)]
 r : ξ0 w br #[wv, .bool false]
 n : ξ0 w bn nv
 ne : w0.heap.size ≤ bx ∧ w0.heap.size ≤ br ∧ w0.heap.size ≤ bn ∧ bx ≠ br ∧ bx ≠ bn ∧ br ≠ bn
theorem ξ1N.read {w0 w w' : World} {bx br bn : Nat} {wv wv' : Value} {nv : Array Value} (h : ξ1N w0 w bx br bn wv nv) (g : w.grownBy w' (some br)) (hr : ξ0 w' br #[wv', .bool false]) : ξ1N w0 w' bx br bn wv' nv :=
 ⟨Below.grown h.g g h.g.size (fun k e => by cases e; exact h.ne.2.1), h.x.grown g (fun e => h.ne.2.2.2.1 (Option.some.inj e)), hr, h.n.grown g (fun e => h.ne.2.2.2.2.2 (Option.some.inj e).symm), h.ne⟩
theorem ξ1N.put {w0 w : World} {bx br bn : Nat} {wv : Value} {x0 x1 x2 x3 x4 x5 x6 x7 : Value} (u0 u1 u2 u3 u4 u5 u6 u7 : Value) (h : ξ1N w0 w bx br bn wv #[x0, x1, x2, x3, x4, x5, x6, x7]) :
  ξ1N w0 (set8 w bn u0 u1 u2 u3 u4 u5 u6 u7) bx br bn wv #[u0, u1, u2, u3, u4, u5, u6, u7] ∧ Upd bn w (set8 w bn u0 u1 u2 u3 u4 u5 u6 u7) := by
 obtain ⟨k1, k2, k3⟩ := fill8 u0 u1 u2 u3 u4 u5 u6 u7 h.n
 exact ⟨⟨Below.grown h.g k1 h.g.size (fun k e => by cases e; exact h.ne.2.2.1), h.x.upd k3 h.ne.2.2.2.2.1, h.r.upd k3 h.ne.2.2.2.2.2, k2, h.ne⟩, k3⟩
abbrev nodeZ : Array Value := #[.int .i64 0, .slice none 0 0, .int .i64 0, .int .i64 0, .int .i64 0, .slice none 0 0, .int .i64 0, .slice none 0 0]
theorem ξbk (w0 w : World) (bx br bn bw o c : Nat) (s s' : List UInt8) (v v' : Int) (he : ξ1N w0 w bx br bn (.slice (some ⟨bw, o, none⟩) 2 2) nodeZ) (hb : bw ≠ br) (hs : w.cell? ⟨bw, o, none⟩ = some (.string ⟨s.toArray⟩)) (hs' : w.cell? ⟨bw, o + 1, none⟩ = some (.string ⟨s'.toArray⟩)) (hp : Lib.parseIntB 64 s = .ok v) (hp' : Lib.parseIntB 64 s' = .ok v') (hl : s.length ≤ 1000) (hl' : s'.length ≤ 1000) :
  Calls Tryz.prog 66 #[.pointer (some ⟨bx, 0, none⟩), .pointer (some ⟨bn, 0, none⟩)] w (fun e w' => ∃ r q, e = .returned r ∧ ξ1N w0 w' bx br bn (.slice q 0 0) (nodeA ⟨2, none, 0, 0, v, v', 0, none, 0, 0, 0, none, 0, 0⟩)) := by
 have HE := ξ he
 have HS := ξ (And.intro hs hs')
 have HP := ξ (And.intro hp hp')
 have HL := ξ (And.intro hl hl')
 have x0 : w.cell? ⟨bx, 0, none⟩ = some (.pointer (some ⟨br, 0, none⟩)) := he.x.at 0 rfl
 clear he hs hs' hp hp' hl hl'
 go_enter Tryz.func66, Tryz.ntmps66
 go_wp2_with fail
 clear x0
 refine (ξ5Z w br bw o 2 2 (some ⟨bw, o + 1, none⟩) s v false HE.out.r HS.out.1 HP.out.1 HL.out.1 (by decide) (by decide) (by decide) (.inr ⟨by decide, rfl⟩)).mono ?_
 rintro _ w1 ⟨rfl, g1, hr1⟩
 have HE1 := ξ (HE.out.read g1 hr1)
 have hs1 : w1.cell? ⟨bw, o + 1, none⟩ = some (.string ⟨s'.toArray⟩) := by
  have hlt := World.block_lt_of_cell? (w := w) _ HS.out.2
  rw [World.cell?_of_block (w := w) (g1.block bw hlt (fun e => hb (Option.some.inj e)))]
  exact HS.out.2
 have HS1 := ξ hs1
 have x0 : w1.cell? ⟨bx, 0, none⟩ = some (.pointer (some ⟨br, 0, none⟩)) := HE1.out.x.at 0 rfl
 clear g1 hr1 hs1
 go_wp2_with fail
 clear x0
 refine (ξ5Z w1 br bw (o + 1) 1 1 (some ⟨bw, o + 1, none⟩) s' v' false HE1.out.r HS1.out HP.out.2 HL.out.2 (by decide) (by decide) (by decide) (.inl ⟨rfl, rfl⟩)).mono ?_
 rintro _ w2 ⟨rfl, g2, hr2⟩
 have HE2 := ξ (HE1.out.read g2 hr2)
 have hx := HE2.out.put (.int .i64 2) (.slice none 0 0) (.int .i64 v) (.int .i64 v') (.int .i64 0) (.slice none 0 0) (.int .i64 0) (.slice none 0 0)
 unfold set8 at hx
 have HX := ξ hx.1
 have n0 := HE2.out.n.at 0 rfl
 have n1 := HE2.out.n.at 1 rfl
 have n2 := HE2.out.n.at 2 rfl
 have n3 := HE2.out.n.at 3 rfl
 have n4 := HE2.out.n.at 4 rfl
 have n5 := HE2.out.n.at 5 rfl
 have n6 := HE2.out.n.at 6 rfl
 have n7 := HE2.out.n.at 7 rfl
 have f0 := ξ0.f HE2.out.n 0
 have f1 := ξ0.f HE2.out.n 1
 have f2 := ξ0.f HE2.out.n 2
 have f3 := ξ0.f HE2.out.n 3
 have f4 := ξ0.f HE2.out.n 4
 have f5 := ξ0.f HE2.out.n 5
 have f6 := ξ0.f HE2.out.n 6
 have f7 := ξ0.f HE2.out.n 7
 clear g2 hr2 hx
 go_wp2_with fail
 first | go_end0 | (refine bodyPost_ret (results_none rfl _ _ _) rfl ?_)
 exact ⟨_, some ⟨bw, o + 1, none⟩, rfl, HX.out⟩
theorem ξaU (w0 w : World) (br bx bn bw o c : Nat) (s : List UInt8) (z : Int) (hz : OneW s z) (m : Int) (hm : w.cell? ⟨2, 0, none⟩ = some (.int .i64 m)) (he : ξ1N w0 w bx br bn (.slice (some ⟨bw, o, none⟩) 1 c) nodeZ) (hs : w.cell? ⟨bw, o, none⟩ = some (.string ⟨s.toArray⟩)) :
  Calls Tryz.prog 62 #[.pointer (some ⟨bx, 0, none⟩), .pointer (some ⟨bn, 0, none⟩)] w (fun e w' => ∃ r p c' u, e = .returned r ∧ ξ1N w0 w' bx br bn (.slice none 0 0) (nodeA ⟨0, p, 1, c', 0, 0, 0, none, 0, 0, 0, none, 0, 0⟩) ∧ (∀ a, p = some a → w0.heap.size ≤ a.block) ∧ SlL w' 3 encRat (.slice p 1 c') [u] ∧ RatC w' u.v (z : Rat)) := by
 have HE := ξ he
 have HS := ξ hs
 have HM := ξ hm
 have HZ := ξ hz
 have x0 : w.cell? ⟨bx, 0, none⟩ = some (.pointer (some ⟨br, 0, none⟩)) := he.x.at 0 rfl
 clear he hs hm hz
 go_enter Tryz.func62, Tryz.ntmps62
 go_wp2_with fail
 clear x0
 refine (ξ7d w br bw o c s z HZ.out m HM.out HE.out.r HS.out).mono ?_
 rintro _ w2 ⟨p, c', u, rfl, hp, g2, hr2, h1, h2⟩
 have HE2 := ξ (HE.out.read g2 hr2)
 have hx := HE2.out.put (.int .i64 0) (.slice p 1 c') (.int .i64 0) (.int .i64 0) (.int .i64 0) (.slice none 0 0) (.int .i64 0) (.slice none 0 0)
 have hsz : w0.heap.size ≤ w.heap.size ∧ bn < w.heap.size := ⟨HE.out.g.size, HE.out.n.lt⟩
 have HU := ξ (show _ ∧ _ ∧ _ from ⟨fun a ha => Nat.le_trans hsz.1 (hp a ha), SlL.updA h1 hx.2 (fun a ha e => by have := hp a ha; omega), ξ2y h2 (Dk.upd (NoU.of HE2.out.n (by simp)) hx.2)⟩)
 unfold set8 at hx HU
 have HX := ξ hx.1
 have n0 := HE2.out.n.at 0 rfl
 have n1 := HE2.out.n.at 1 rfl
 have n2 := HE2.out.n.at 2 rfl
 have n3 := HE2.out.n.at 3 rfl
 have n4 := HE2.out.n.at 4 rfl
 have n5 := HE2.out.n.at 5 rfl
 have n6 := HE2.out.n.at 6 rfl
 have n7 := HE2.out.n.at 7 rfl
 have f0 := ξ0.f HE2.out.n 0
 have f1 := ξ0.f HE2.out.n 1
 have f2 := ξ0.f HE2.out.n 2
 have f3 := ξ0.f HE2.out.n 3
 have f4 := ξ0.f HE2.out.n 4
 have f5 := ξ0.f HE2.out.n 5
 have f6 := ξ0.f HE2.out.n 6
 have f7 := ξ0.f HE2.out.n 7
 clear g2 hr2 hx h1 h2 hp hsz
 go_wp2_with fail
 first | go_end0 | (refine bodyPost_ret (results_none rfl _ _ _) rfl ?_)
 exact ⟨_, p, c', u, rfl, HX.out, HU.out.1, HU.out.2.1, HU.out.2.2⟩
def encS (s : List UInt8) : List Value := [.string ⟨s.toArray⟩]
theorem ξ4w (x : List UInt8) : (encS x).length = 1 := rfl
theorem ξai : ∀ x, ∀ u ∈ encS x, u.oneCell' = true := fun x u hu => by
 simp [encS] at hu; subst hu; rfl
theorem ξay : (Tryz.prog.info? 9).map (fun i => (i.zero, i.size, i.bytes)) = some (some (.string ⟨#[]⟩), 1, 16) := by kernel_rfl
abbrev ξ1A (w : World) (base : Nat) (v : Value) (l : List (List UInt8)) : Prop := OwnL w base 9 1 encS v l
theorem ξ48 (w : World) (base : Nat) (hb : base ≤ w.heap.size) (x : List UInt8) :
  Gr w (w.alloc (.cells #[.string ⟨x.toArray⟩] 9)) ∧ ξ1A (w.alloc (.cells #[.string ⟨x.toArray⟩] 9)) base (.slice (some ⟨w.heap.size, 0, none⟩) 1 1) [x] :=
 ⟨(Gr.refl w).alloc _, World.ownsRow_lit w #[.string ⟨x.toArray⟩] 1 hb (by decide) rfl⟩
theorem ξ2k {a : Act} {o : Oper} {Q : Exit → Act → World → Prop} {K : Act → World → Prop} {w : World} (s x : Operand) (ho : o.op = .call { callee := .builtin .append, args := #[s, x], argTypes := #[83, 83] })
  (base : Nat) (v vx : Value) (l m : List (List UInt8)) (hs : a.eval s = v) (hown : ξ1A w base v l) (hx : a.eval x = vx) (hm : SlL w 1 encS vx m) (hl : l.length + m.length ≤ 1000) (hbase : base ≤ w.heap.size) (hpos : 0 < m.length)
  (h : ∀ p c w', ξ1A w' base (.slice p (l.length + m.length) c) (l ++ m) → w.grownBy w' v.ownBlock → K (a.put o.dst (.slice p (l.length + m.length) c)) w') : Oper.wp Tryz.prog o a w K Q := by
 refine ξ05 s x 83 9 _ 16 ho Tryz.underlying83 ξay rfl (by decide) ξ4w ξai base v vx l m hs hown hx hm (by omega) (by omega) hbase hpos ?_
 intro v' w' k1 k2 _
 obtain ⟨p, c, e, _, _⟩ := k1.read.parts
 rw [List.length_append] at e
 subst e
 exact h p c w' k1 k2
theorem ξ7W (w : World) (word : List UInt8) (p : Option Addr) (n c : Nat) (l : List (List UInt8)) (ok : Bool) (hl : SlL w 1 encS (.slice p n c) l) (hn : l.length = n) (h1 : 0 < n) (h2 : n ≤ 100) :
  Calls Tryz.prog 70 #[.string ⟨word.toArray⟩, .slice p n c, .bool ok] w (Ret w fun r w' => ∃ q d, r = .tuple #[.slice q (1 + n) d, .bool ok] ∧ ξ1A w' w.heap.size (.slice q (1 + n) d) (word :: l)) := by
 have HL := ξ hl
 have HN := ξ hn
 have H1 := ξ (And.intro h1 h2)
 clear hl hn h1 h2
 go_enter Tryz.func70, Tryz.ntmps70
 go_wp2_with (at_builtin; refine Hold.hold ?_)
 have BS := ξ48 w w.heap.size (Nat.le_refl _) word
 have HB := ξ BS
 clear BS
 generalize hbs : w.heap.size = bs at HB ⊢
 generalize w.alloc _ = W1 at HB ⊢
 refine Hold.go ?_
 refine wpList_plain rfl (fun K hK => ?_)
 refine ξ2k _ _ rfl bs (.slice (some ⟨bs, 0, none⟩) 1 1) _ [word] l rfl HB.out.2 rfl (SlL.grow HL.out HB.out.1) (by have := H1.out; have := HN.out; simp; omega) (by have := HB.out.1.size; omega) (by have := H1.out; have := HN.out; omega) ?_
 intro q d W2 ho g2
 rw [show [word].length + l.length = 1 + n from by rw [HN.out]; rfl] at ho ⊢
 have G2 := ξ (show Gr w W2 from OwnL.gr (by rw [hbs]; exact HB.out.2) HB.out.1 g2)
 have HO := ξ ho
 clear ho g2
 refine hK _ _ ?_
 clear hK K
 cases ok
 ·go_wp2_with fail
  refine bodyPost_ret (by simp [results, Tryz.results70, go_sem]; rfl) rfl ?_
  exact ⟨_, rfl, G2.out, q, d, rfl, by have h := HO.out; rw [← hbs] at h; exact h⟩
 ·go_wp2_with fail
  refine bodyPost_ret (by simp [results, Tryz.results70, go_sem]; rfl) rfl ?_
  exact ⟨_, rfl, G2.out, q, d, rfl, by have h := HO.out; rw [← hbs] at h; exact h⟩
theorem ξcN (w : World) (n : Int) : Calls Tryz.prog 122 (#[mkI n] ++ #[]) w (Ret w fun r _ => ξ1 (n < 0) r) := by
 show Calls _ _ #[.int .i64 n] _ _
 by_cases h : n < 0
 ·have H := ξ h
  go_enter Tryz.func122, Tryz.ntmps122
  go_wp2_with fail
  go_ret
  exact ⟨_, rfl, Gr.refl _, ξ1.yes H.out⟩
 ·have H := ξ h
  go_enter Tryz.func122, Tryz.ntmps122
  go_wp2_with fail
  go_ret
  exact ⟨_, rfl, Gr.refl _, ξ1.no (Int.not_lt.2 H.out)⟩
def ξ6l (w W : World) (s : List UInt8) (k : Nat) (v : Value) : Prop := Gr w W ∧ ((k = 0 ∧ v = .slice none 0 0) ∨ (k = 1 ∧ ∃ q d, v = .slice q 1 d ∧ ξ1A W w.heap.size (.slice q 1 d) [s]))
theorem ξ8z (w : World) (p : Option Addr) (c v : Nat) (hv : v < 100) (hl : ξ1d w (.slice p 1 c) [(v : Int)]) :
  Calls Tryz.prog 72 #[.slice p 1 c] w (Ret w fun r w' => ∃ q d, r = .tuple #[.slice q 1 d, .bool true] ∧ ξ1A w' w.heap.size (.slice q 1 d) [Lib.decDigits v]) := by
 obtain ⟨b, o, x, rfl, hx, hc⟩ := ξ1f hl rfl (k := 0) (by decide)
 obtain rfl : (v : Int) = x := by simpa using hx
 have HL := ξ hl
 have HC := ξ hc
 have HV := ξ hv
 clear hl hx hc hv
 go_enter Tryz.func72, Tryz.ntmps72
 go_wp2_with fail
 go_loopw [4, 9] (fun l i w9 => ∃ (k : Nat) (W1 : World), W1 = w9 ∧ i = .int .i64 (k : Int) ∧ k ≤ 1 ∧ ξ6l w W1 (Lib.decDigits v) k l) (fun _ i _ => 1 - (RowKit.intOf i).toNat)
 case atStart => exact ⟨0, _, rfl, rfl, by omega, Gr.refl w, .inl ⟨rfl, rfl⟩⟩
 case round =>
  obtain ⟨k, W1, rfl, rfl, hk, hg, h⟩ := hrel
  have G := ξ hg
  clear hg
  rcases h with ⟨rfl, rfl⟩ | ⟨rfl, q, d, rfl, ho⟩
  ·have c0 := HC.out _ G.out
   rw [Nat.add_zero] at c0
   go_wp2_with fail
   clear c0
   refine (Tryz.strconv_Itoa_small v HV.out W1).mono ?_
   rintro _ W1 ⟨rfl, rfl⟩
   go_wp2_with (at_builtin; refine Hold.hold ?_)
   have HB := ξ (ξ48 W1 w.heap.size G.out.size (Lib.decDigits v))
   generalize W1.heap.size = bs at HB ⊢
   generalize W1.alloc _ = W2 at HB ⊢
   refine Hold.go ?_
   refine wpList_plain rfl (fun K hK => ?_)
   have G2 := ξ (G.out.trans HB.out.1)
   refine ξ2k _ _ rfl w.heap.size (.slice none 0 0) _ [] [Lib.decDigits v] rfl (OwnL.nil _ _ _) rfl HB.out.2.read (by simp) G2.out.size (by simp) ?_
   intro q d W3 ho g3
   have G3 := ξ (show Gr w W3 from OwnL.gr (OwnL.nil (enc := encS) (sz := 1) W2 w.heap.size 9) G2.out g3)
   have HI := ξ (show ξ6l w W3 (Lib.decDigits v) 1 (.slice q 1 d) from ⟨G3.out, .inr ⟨rfl, q, d, rfl, ho⟩⟩)
   clear ho g3
   refine hK _ _ ?_
   clear hK K
   go_wp2_with fail
   exact ⟨⟨1, _, rfl, rfl, by omega, HI.out⟩, by simp [RowKit.intOf]⟩
  ·have HO := ξ ho
   clear ho
   go_wp2_with fail
   refine (ξ7m W1 (some ⟨b, o, none⟩) 1 c [(v : Int)] (.func (.func 122) #[] #[]) (fun x => x < 0) (SlL.grow HL.out G.out) rfl (by decide) ⟨_, _, rfl, enters_of Tryz.func122 (by kernel_rfl) rfl, fun w' _ x _ => ξcN w' x⟩).mono ?_
   rintro _ w2 ⟨r2, rfl, g2, h2⟩
   rcases h2.cases with ⟨rfl, k2⟩ | ⟨rfl, k2⟩
   ·obtain ⟨x, hx, h⟩ := k2
    simp at hx
    omega
   ·have G2 := ξ (G.out.trans g2)
    have HO2 := ξ (HO.out.grow g2)
    clear h2 k2 g2
    go_wp2_with fail
    refine bodyPost_ret (by simp [results, Tryz.results72, go_sem]; rfl) rfl ?_
    exact ⟨_, rfl, G2.out, q, d, rfl, HO2.out⟩
def ξcu (w W : World) (s : List UInt8) (k : Nat) (v t : Value) : Prop := t = .bool true ∧ ξ6l w W s k v
theorem ξ6x (w : World) (p : Option Addr) (c : Nat) (u : RatM) (s : List UInt8) (z : Int) (hz : OneW s z) (htab : Tab w) (hl : SlL w 3 encRat (.slice p 1 c) [u]) (hu : RatC w u.v (z : Rat)) :
  Calls Tryz.prog 71 #[.slice p 1 c] w (Ret w fun r w' => ∃ q d, r = .tuple #[.slice q 1 d, .bool true] ∧ ξ1A w' w.heap.size (.slice q 1 d) [s]) := by
 obtain ⟨b, o, x, rfl, hx, hc⟩ := hl.at ξR rfl (k := 0) (by decide)
 obtain rfl : u = x := by simpa using hx
 have HC := ξ hc
 have HU := ξ hu
 have HT := ξ htab
 have HSZ := ξ (show Sz 4 (z : Rat) ∧ ratText (z : Rat) = s from by
  rcases hz with ⟨rfl, rfl⟩ | ⟨rfl, rfl⟩
  ·exact ⟨⟨by decide +kernel, by decide +kernel⟩, by decide +kernel⟩
  ·exact ⟨⟨by decide +kernel, by decide +kernel⟩, by decide +kernel⟩)
 clear hl hx hc hu htab hz
 go_enter Tryz.func71, Tryz.ntmps71
 go_wp2_with fail
 go_loopw [4, 5, 10] (fun l t i w9 => ∃ (k : Nat) (W1 : World), W1 = w9 ∧ i = .int .i64 (k : Int) ∧ k ≤ 1 ∧ ξcu w W1 s k l t) (fun _ _ i _ => 1 - (RowKit.intOf i).toNat)
 case atStart => exact ⟨0, _, rfl, rfl, by omega, rfl, Gr.refl w, .inl ⟨rfl, rfl⟩⟩
 case round =>
  obtain ⟨k, W1, rfl, rfl, hk, rfl, hg, h⟩ := hrel
  have G := ξ hg
  clear hg
  rcases h with ⟨rfl, rfl⟩ | ⟨rfl, q, d, rfl, ho⟩
  ·have c0 := HC.out 0 _ rfl _ G.out
   have c1 := HC.out 1 _ rfl _ G.out
   have c2 := HC.out 2 _ rfl _ G.out
   rw [Nat.add_zero] at c0
   have B := ξ0.new W1 #[.bool u.n, .slice u.p u.k u.c, .slice u.q u.m u.e] 68
   have d0 := B.2.at 0 rfl
   have d1 := B.2.at 1 rfl
   have d2 := B.2.at 2 rfl
   have HB := ξ B
   clear B
   go_wp2_with fail
   clear c0 c1 c2 d0 d1 d2
   generalize W1.heap.size = br at HB ⊢
   generalize W1.alloc _ = W2 at HB ⊢
   have G2 := ξ (G.out.trans HB.out.1)
   refine (ξbu W2 _ (z : Rat) 4 (HU.out.grow G2.out) HSZ.out.1 (by decide)).mono ?_
   rintro _ w3 ⟨_, rfl, g3, rfl⟩
   have G3 := ξ (G2.out.trans g3)
   have HB3 := ξ (HB.out.2.grow g3)
   clear g3
   have d0 := HB3.out.at 0 rfl
   have d1 := HB3.out.at 1 rfl
   have d2 := HB3.out.at 2 rfl
   go_wp2_with fail
   clear d0 d1 d2
   refine (ξcm w3 _ (z : Rat) 4 s ((HU.out.grow G3.out).v HSZ.out.1) HSZ.out.2 (by decide) (by decide) (HT.out.grow G3.out)).mono ?_
   rintro _ w4 ⟨_, rfl, g4, rfl⟩
   have G4 := ξ (G3.out.trans g4)
   clear g4
   go_wp2_with (at_builtin; refine Hold.hold ?_)
   have HB := ξ (ξ48 w4 w.heap.size G4.out.size s)
   generalize w4.heap.size = bs at HB ⊢
   generalize w4.alloc _ = W5 at HB ⊢
   refine Hold.go ?_
   refine wpList_plain rfl (fun K hK => ?_)
   have G5 := ξ (G4.out.trans HB.out.1)
   refine ξ2k _ _ rfl w.heap.size (.slice none 0 0) _ [] [s] rfl (OwnL.nil _ _ _) rfl HB.out.2.read (by simp) G5.out.size (by simp) ?_
   intro q d W6 ho g6
   have G6 := ξ (show Gr w W6 from OwnL.gr (OwnL.nil (enc := encS) (sz := 1) W5 w.heap.size 9) G5.out g6)
   have HI := ξ (show ξ6l w W6 s 1 (.slice q 1 d) from ⟨G6.out, .inr ⟨rfl, q, d, rfl, ho⟩⟩)
   clear ho g6
   refine hK _ _ ?_
   clear hK K
   go_wp2_with fail
   exact ⟨⟨1, _, rfl, rfl, by omega, rfl, HI.out⟩, by simp [RowKit.intOf]⟩
  ·have HO := ξ ho
   clear ho
   go_wp2_with fail
   refine bodyPost_ret (by simp [results, Tryz.results71, go_sem]; rfl) rfl ?_
   exact ⟨_, rfl, G.out, q, d, rfl, HO.out⟩
def exV : VarM := ⟨0, 1, false, true, 0⟩
def exT : List ξ8 := [⟨0, 2⟩, ⟨1, 2⟩]
def exR : RowS := ⟨[], 0, 2, exT, 1⟩
def exP : Prg := ⟨[exV, exV], [exR]⟩
theorem ξ78 : ξr exP ∧ Whole exP := by
 refine ⟨⟨by decide, by decide, ?_, ?_⟩, ?_⟩
 ·intro v hv
  simp [exP] at hv
  subst hv
  unfold ξ1I In exV
  simp
 ·intro r hr
  simp [exP] at hr
  subst hr
  unfold ξI exR exT In exP
  simp [Inc, In]
 ·intro v hv
  simp [exP] at hv
  subst hv
  exact ⟨rfl, rfl⟩
def exS (v : Int) : ξ6 := ⟨2, [], v, 0, ⟨0, [], 0, []⟩⟩
def exF (z : Int) : ξ6 := ⟨0, [(z : Rat)], 0, 0, ⟨0, [], 0, []⟩⟩
def exN : List ξ6 := [exS 0, exS 1, exF 1, exF (-1), exF (-1)]
theorem ξ8l : Dep exN 2 [] := .split rfl (.split rfl (.leaf rfl) (.leaf rfl)) (.leaf rfl)
theorem ξ5s : ∀ n ∈ exN, ξ08 n := by
 have h1 : ∀ v, ξ08 (exS v) := fun v => ⟨by simp [exS], by simp [exS], by simp [exS], by simp [exS], by simp [exS]⟩
 have h2 : Sz 4 ((1 : Int) : Rat) := ⟨by decide +kernel, by decide +kernel⟩
 have h3 : Sz 4 ((-1 : Int) : Rat) := ⟨by decide +kernel, by decide +kernel⟩
 have h4 : ∀ z : Int, Sz 4 (z : Rat) → ξ08 (exF z) := fun z h => ⟨by simp [exF], by intro x hx; simp [exF] at hx; subst hx; exact h, by simp [exF], by simp [exF], by simp [exF]⟩
 intro n hn
 simp [exN] at hn
 rcases hn with rfl | rfl | rfl | rfl
 ·exact h1 0
 ·exact h1 1
 ·exact h4 1 h2
 ·exact h4 (-1) h3
theorem ξ3R (V : List VarM) (y : List Rat) : ξ23 ⟨V, [exR]⟩ y := fun i r h => by
 cases i with
 | zero =>
  simp at h
  subst h
  exact ⟨fun k => absurd k.1 (by decide), fun k => absurd k.1 (by decide)⟩
 | succ i => simp at h
theorem ξ3S : ξa exP exN [] := by
 have nc : ξ0e (⟨0, [], 0, []⟩ : CutS) := ⟨rfl, rfl, rfl, rfl⟩
 refine .split rfl ⟨nc, rfl⟩ ⟨by decide, by decide⟩ ⟨by decide, by decide⟩ (r := [exF (-1)]) ?_ ?_
 ·refine .split rfl ⟨nc, rfl⟩ ⟨by decide, by decide⟩ ⟨by decide, by decide⟩ (r := [exF (-1), exF (-1)]) ?_ ?_
  ·exact .farkas rfl ⟨nc, rfl, rfl⟩ (by decide) ⟨ξ3R _ _, .inr (by decide +kernel)⟩
  ·exact .farkas rfl ⟨nc, rfl, rfl⟩ (by decide) ⟨ξ3R _ _, .inr (by decide +kernel)⟩
 ·exact .farkas rfl ⟨nc, rfl, rfl⟩ (by decide) ⟨ξ3R _ _, .inr (by decide +kernel)⟩
theorem ξcp : ¬ ξa exP (exN.take 1) [] := ξ3U ξ3S (by decide)
theorem ξ9K (w : World) : Calls Tryz.prog 16 #[] w (Ret w fun r w' => ξC w' r exP ∧ ∃ a c b d, r = prgV a c b d exP) := by
 have B0 := ξ0.new w #[.slice (some ⟨w.heap.size + 1 + 1, 0, none⟩) 2 2, .slice (some ⟨w.heap.size + 1 + 1 + 1 + 1, 0, none⟩) 1 1] 25
 obtain ⟨W1, hW1⟩ : ∃ z, w.alloc (.cells #[.slice (some ⟨w.heap.size + 1 + 1, 0, none⟩) 2 2, .slice (some ⟨w.heap.size + 1 + 1 + 1 + 1, 0, none⟩) 1 1] 25) = z := ⟨_, rfl⟩
 rw [hW1] at B0
 have B1 := ξ0.new W1 #[.int .i64 0, .int .i64 1, .bool false, .bool true, .int .i64 0] 62
 obtain ⟨W2, hW2⟩ : ∃ z, W1.alloc (.cells #[.int .i64 0, .int .i64 1, .bool false, .bool true, .int .i64 0] 62) = z := ⟨_, rfl⟩
 rw [hW2] at B1
 have B2 := SlL.new (enc := encVar) (sz := 5) W2 62 ξ0D [exV, exV] #[.int .i64 0, .int .i64 1, .bool false, .bool true, .int .i64 0, .int .i64 0, .int .i64 1, .bool false, .bool true, .int .i64 0] 2 rfl rfl (by decide)
 obtain ⟨W3, hW3⟩ : ∃ z, W2.alloc (.cells #[.int .i64 0, .int .i64 1, .bool false, .bool true, .int .i64 0, .int .i64 0, .int .i64 1, .bool false, .bool true, .int .i64 0] 62) = z := ⟨_, rfl⟩
 rw [hW3] at B2
 have B3 := SlL.new (enc := encTerm) (sz := 2) W3 75 ξ0a exT #[.int .i64 0, .int .i64 2, .int .i64 1, .int .i64 2] 2 rfl rfl (by decide)
 obtain ⟨W4, hW4⟩ : ∃ z, W3.alloc (.cells #[.int .i64 0, .int .i64 2, .int .i64 1, .int .i64 2] 75) = z := ⟨_, rfl⟩
 rw [hW4] at B3
 have B4 := SlL.new (enc := encRow) (sz := 5) W4 42 ξD [(⟨[], 0, 2, some ⟨W3.heap.size, 0, none⟩, 2, exT, 1⟩ : RowM)] #[.string ⟨#[]⟩, .int .i64 0, .int .i64 2, .slice (some ⟨W3.heap.size, 0, none⟩) 2 2, .int .i64 1] 1 rfl rfl (by decide)
 obtain ⟨W5, hW5⟩ : ∃ z, W4.alloc (.cells #[.string ⟨#[]⟩, .int .i64 0, .int .i64 2, .slice (some ⟨W3.heap.size, 0, none⟩) 2 2, .int .i64 1] 42) = z := ⟨_, rfl⟩
 rw [hW5] at B4
 have g25 := B2.1.trans (B3.1.trans B4.1)
 have g15 := B1.1.trans g25
 have C5 := B0.2.grow g15
 have HX := ξ (show _ ∧ _ ∧ ξC W5 (.agg #[.slice (some ⟨W2.heap.size, 0, none⟩) 2 2, .slice (some ⟨W4.heap.size, 0, none⟩) 1 1]) exP from
  ⟨B0.1.trans g15, C5, some ⟨W2.heap.size, 0, none⟩, 2, some ⟨W4.heap.size, 0, none⟩, 1, rfl, SlL.grow B2.2 (B3.1.trans B4.1),
   [(⟨[], 0, 2, some ⟨W3.heap.size, 0, none⟩, 2, exT, 1⟩ : RowM)], B4.2, rfl, fun x hx => by
    obtain rfl := List.mem_singleton.1 hx
    exact SlL.grow B3.2 B4.1⟩)
 clear B0 B1 B2 B3 B4 g25 g15 C5
 subst hW5 hW4 hW3 hW2 hW1
 simp only [World.size_alloc] at HX
 go_enter Tryz.func16, Tryz.ntmps16
 go_wp2_with fail
 try rw [Exit.noGoto_ret]
 generalize (((((w.alloc _).alloc _).alloc _).alloc _).alloc _) = W6 at HX ⊢
 have z0 := HX.out.2.1.at 0 rfl
 have z1 := HX.out.2.1.at 1 rfl
 refine bodyPost_ret (by simp [results, Tryz.results16, go_sem, z0, z1]; rfl) rfl ?_
 exact ⟨_, rfl, HX.out.1, HX.out.2.2, _, _, _, _, rfl⟩
theorem ξac (w : World) (v : Value) (p : Prg) (N : List ξ6) (pt : Option Addr) (nt ct : Nat) (hnt : nt = N.length) (hv : ξC w v p) (hno : ξu w (.slice pt nt ct) N 4) (hi : PrgI p) (hl : ∀ r ∈ p.rows, r.name.length ≤ 1000000) (hn : p.vars.length ≤ 10) (hm : p.rows.length + N.length ≤ 40) (hf : ∀ n ∈ N, ξ08 n) (hk : ξr p ∧ Whole p) (hpr : ξa p N []) :
  Calls Tryz.prog 20 #[v, .agg #[.bool false, .slice none 0 0, .int .i64 0, .slice pt nt ct]] w (Ret w fun r _ => r = .int .i64 0) := by
 have HV := ξ hv
 have HNO := ξ (And.intro hno hnt)
 have HI := ξ hi
 have HL := ξ hl
 have HNM := ξ (And.intro hn hm)
 have HF := ξ hf
 have HK := ξ (And.intro hk hpr)
 obtain ⟨va, vc, vb, vd, rfl, hvs, hr⟩ := hv
 unfold prgV at HV ⊢
 have B0 := ξ0.new w #[.slice va p.vars.length vc, .slice vb p.rows.length vd] 25
 have B1 := ξ0.new (w.alloc (.cells #[.slice va p.vars.length vc, .slice vb p.rows.length vd] 25)) #[.bool false, .slice none 0 0, .int .i64 0, .slice pt nt ct] 57
 simp only [World.size_alloc] at B1
 have HB := ξ (show _ ∧ ξ0 _ _ #[.slice va p.vars.length vc, .slice vb p.rows.length vd] ∧ ξ0 _ _ #[.bool false, .slice none 0 0, .int .i64 0, .slice pt nt ct] from ⟨B0.1.trans B1.1, B0.2.grow B1.1, B1.2⟩)
 clear hvs hr hno hi hl hn hm hf hnt B0 B1 hk hpr
 go_enter Tryz.func20, Tryz.ntmps20
 go_wp2_with fail
 generalize hba : w.heap.size + 1 = ba at HB ⊢
 generalize hbp : w.heap.size = bp at HB ⊢
 generalize (w.alloc _).alloc _ = W at HB ⊢
 clear hba hbp
 refine (ξ8a W _ p (HV.out.grow HB.out.1) HI.out HL.out (by have := HNM.out; omega) (by have := HNM.out; omega)).mono ?_
 rintro _ w1 ⟨r1, rfl, g1, h1⟩
 have G := ξ (HB.out.1.trans g1)
 have HP := ξ (HB.out.2.1.grow g1)
 have HA := ξ (HB.out.2.2.grow g1)
 rcases h1.cases with ⟨rfl, k1⟩ | ⟨rfl, k1⟩
 rotate_left
 ·exact absurd HK.out.1 k1
 have p0 := HP.out.at 0 rfl
 have p1 := HP.out.at 1 rfl
 have a0 := HA.out.at 0 rfl
 have a1 := HA.out.at 1 rfl
 have a2 := HA.out.at 2 rfl
 have a3 := HA.out.at 3 rfl
 clear h1 k1 g1
 go_wp2_with fail
 clear p0 p1 a0 a1 a2 a3
 refine (ξ7c w1 _ p N pt nt ct HNO.out.2 (HV.out.grow G.out) (HNO.out.1.grow G.out) ⟨HK.out.1.1, HK.out.1.2, HNM.out.1, HNM.out.2⟩ HF.out).mono ?_
 rintro _ w2 ⟨r2, rfl, g2, h2⟩
 have G := ξ (G.out.trans g2)
 rcases h2.cases with ⟨rfl, k2⟩ | ⟨rfl, k2⟩
 rotate_left
 ·exact absurd HK.out.2 k2
 clear h2 k2 g2
 go_wp2_with fail
 go_ret
 exact ⟨_, rfl, G.out, rfl⟩
theorem SlL.grownA {α : Type} {enc : α → List Value} {sz : Nat} {w w' : World} {row : Option Nat} {p : Option Addr} {n c : Nat} {l : List α} (h : SlL w sz enc (.slice p n c) l) (hg : w.grownBy w' row) (ho : ∀ a, p = some a → some a.block ≠ row) : SlL w' sz enc (.slice p n c) l := by
 obtain ⟨h0, p', c', hv, h1, h2, h3⟩ := h
 cases hv
 refine ⟨h0, p, c, rfl, h1, h2, ?_⟩
 rcases h3 with h3 | ⟨b, o, hp, hc⟩
 ·exact .inl h3
 ·exact .inr ⟨b, o, hp, fun j u hj => hg.cell (hc j u hj) (show some b ≠ row from ho ⟨b, o, none⟩ hp)⟩
theorem ξa4 {w : World} (f : FuncId) (caps : Array Value) : (binOp .eql 1 (.func (.func f) #[] caps) .nilFunc).run Tryz.prog w = .ok (.bool false) w := by
 have h := Tryz.underlying1
 have h1 : (Op.equal 1 (.func (.func f) #[] caps) .nilFunc).run Tryz.prog w = .ok false w := by
  have h2 : ∀ d : Nat, (Op.equalIn (d + 1) 1 (.func (.func f) #[] caps) .nilFunc).run Tryz.prog w = .ok false w := fun d => by simp [Op.equalIn, run_underlying h]
  exact h2 9999
 simp only [binOp]
 simp [h1]
theorem ξ0t {s : ByteArray} : MapKept.IsKey .string (.string s) := by unfold MapKept.IsKey; trivial
def kFarkas : ByteArray := ⟨#[102, 97, 114, 107, 97, 115]⟩
def kEmpty : ByteArray := ⟨#[101, 109, 112, 116, 121]⟩
def kSplit : ByteArray := ⟨#[115, 112, 108, 105, 116]⟩
def kRound : ByteArray := ⟨#[114, 111, 117, 110, 100]⟩
def kCover : ByteArray := ⟨#[99, 111, 118, 101, 114]⟩
def fnN (f bx bn : Nat) : Value := .func (.func f) #[] #[.pointer (some ⟨bx, 0, none⟩), .pointer (some ⟨bn, 0, none⟩)]
def formsE (bx bn : Nat) : Array MapEntry := #[{ key := .string kFarkas, val := fnN 62 bx bn, born := 0 }, { key := .string kEmpty, val := fnN 64 bx bn, born := 1 },
 { key := .string kSplit, val := fnN 66 bx bn, born := 2 }, { key := .string kRound, val := fnN 67 bx bn, born := 3 }, { key := .string kCover, val := fnN 68 bx bn, born := 4 }]
def formsL (bx bn : Nat) : List (Value × Value) := [(.string kFarkas, fnN 62 bx bn), (.string kEmpty, fnN 64 bx bn), (.string kSplit, fnN 66 bx bn), (.string kRound, fnN 67 bx bn), (.string kCover, fnN 68 bx bn)]
theorem ξ6F (bx bn : Nat) : fkv .string (.string kFarkas) (formsL bx bn) = some (some (fnN 62 bx bn)) := rfl
theorem ξ7I (bx bn : Nat) : fkv .string (.string kSplit) (formsL bx bn) = some (some (fnN 66 bx bn)) := rfl
theorem ξaT (k : Nat) (hk : k < 5) : Lib.countB ⟨(exJ k).toArray⟩ ⟨#[32]⟩ + 1 = (exW k).length ∧ Lib.splitB ⟨#[32]⟩ 0 (Lib.countB ⟨(exJ k).toArray⟩ ⟨#[32]⟩) ⟨(exJ k).toArray⟩ = (exW k).map fun s => ⟨s.toArray⟩ := by
 match k, hk with
 | 0, _ | 1, _ | 2, _ | 3, _ | 4, _ => exact ⟨by decide +kernel, by decide +kernel⟩
theorem ξag (w : World) (k : Nat) (hk : k < 5) (m : Int) (hm : w.cell? ⟨2, 0, none⟩ = some (.int .i64 m)) :
  Calls Tryz.prog 61 #[.string ⟨(exJ k).toArray⟩, .string ⟨#[32]⟩] w fun e w' => e = .returned (.slice (some ⟨w.heap.size, 0, none⟩) (exW k).length (exW k).length) ∧ w' = w.alloc (.cells ((exW k).map fun s => Value.string ⟨s.toArray⟩).toArray 9) := by
 refine (Tryz.strings_Split ⟨(exJ k).toArray⟩ ⟨#[32]⟩ m w (by have := ξ47 k; show (exJ k).toArray.size < _; simp; omega) hm (by decide)).mono ?_
 rintro _ _ ⟨rfl, rfl⟩
 obtain ⟨e1, e2⟩ := ξaT k hk
 rw [e2, e1, List.map_map]
 exact ⟨rfl, rfl⟩
structure PdSt (w u W : World) (b0 bl br bx bn : Nat) (ws : Array Value) (wv : Value) : Prop where
 g0 : Gr w u
 g : Gr u W
 c0 : ξ0 u b0 nodeZ
 cl : ξ0 W bl ws
 cr : ξ0 W br #[wv, .bool false]
 cx : ξ0 W bx #[.pointer (some ⟨br, 0, none⟩)]
 cn : ξ0 W bn nodeZ
 ne : w.heap.size = b0 ∧ b0 + 1 = bl ∧ bl + 1 = br ∧ br + 1 = bx ∧ bx + 1 = bn ∧ u.heap.size = bl
theorem PdSt.grow {w u W W' : World} {b0 bl br bx bn : Nat} {ws : Array Value} {wv : Value} (h : PdSt w u W b0 bl br bx bn ws wv) (g : Gr W W') : PdSt w u W' b0 bl br bx bn ws wv :=
 ⟨h.g0, h.g.trans g, h.c0, h.cl.grow g, h.cr.grow g, h.cx.grow g, h.cn.grow g, h.ne⟩
theorem PdSt.env {w u W : World} {b0 bl br bx bn : Nat} {ws : Array Value} {wv : Value} (h : PdSt w u W b0 bl br bx bn ws wv) : ξ1N u W bx br bn wv nodeZ :=
 ⟨h.g, h.cx, h.cr, h.cn, by have := h.ne; omega⟩
theorem ξbc (w : World) (ws : Array Value) (wv : Value) (ts tr tx tn : TypeId) :
  PdSt w (w.alloc (.cells nodeZ tn)) (((((w.alloc (.cells nodeZ tn)).alloc (.cells ws ts)).alloc (.cells #[wv, .bool false] tr)).alloc (.cells #[.pointer (some ⟨w.heap.size + 1 + 1, 0, none⟩)] tx)).alloc (.cells nodeZ tn)) w.heap.size (w.heap.size + 1) (w.heap.size + 1 + 1) (w.heap.size + 1 + 1 + 1) (w.heap.size + 1 + 1 + 1 + 1) ws wv := by
 have B0 := ξ0.new w nodeZ tn
 have B1 := ξ0.new (w.alloc (.cells nodeZ tn)) ws ts
 have B2 := ξ0.new ((w.alloc (.cells nodeZ tn)).alloc (.cells ws ts)) #[wv, .bool false] tr
 have B3 := ξ0.new (((w.alloc (.cells nodeZ tn)).alloc (.cells ws ts)).alloc (.cells #[wv, .bool false] tr)) #[.pointer (some ⟨w.heap.size + 1 + 1, 0, none⟩)] tx
 have B4 := ξ0.new ((((w.alloc (.cells nodeZ tn)).alloc (.cells ws ts)).alloc (.cells #[wv, .bool false] tr)).alloc (.cells #[.pointer (some ⟨w.heap.size + 1 + 1, 0, none⟩)] tx)) nodeZ tn
 simp only [World.size_alloc] at B1 B2 B3 B4
 have g34 := B3.1.trans B4.1
 have g24 := B2.1.trans g34
 have g14 := B1.1.trans g24
 exact ⟨B0.1, g14, B0.2, B1.2.grow g24, B2.2.grow g34, B3.2.grow B4.1, B4.2, rfl, rfl, rfl, rfl, rfl, by simp⟩
def PdI (bx br bn : Nat) (q : Option Addr) (A : Array Value) (w' : World) : Prop := ξ0 w' bx #[.pointer (some ⟨br, 0, none⟩)] ∧ ξ0 w' br #[.slice q 0 0, .bool false] ∧ ξ0 w' bn A
theorem PdI.upd {bx br bn b : Nat} {q : Option Addr} {A : Array Value} {w w' : World} (h : PdI bx br bn q A w) (hu : Upd b w w') (h1 : bx ≠ b) (h2 : br ≠ b) (h3 : bn ≠ b) : PdI bx br bn q A w' := ⟨h.1.upd hu h1, h.2.1.upd hu h2, h.2.2.upd hu h3⟩
theorem ξ6H (w : World) (ln d : List UInt8) (v : Int) (hp : Lib.parseIntB 64 d = .ok v) (hl : d.length ≤ 1000)
  (hs : ∀ w', Gr w w' → Calls Tryz.prog 61 #[.string ⟨ln.toArray⟩, .string ⟨#[32]⟩] w' fun e w'' => e = .returned (.slice (some ⟨w'.heap.size, 0, none⟩) 3 3) ∧ w'' = w'.alloc (.cells #[.string kSplit, .string ⟨d.toArray⟩, .string ⟨#[48]⟩] 9)) :
  Calls Tryz.prog 34 #[.string ⟨ln.toArray⟩] w (Ret w fun r _ => r = .tuple #[.agg (nodeA (nodeS v)), .bool true]) := by
 have HPI := ξ hp
 have HL := ξ hl
 have HS := ξ hs
 clear hp hl hs
 go_enter Tryz.func34, Tryz.ntmps34
 go_wp2_with fail
 refine (HS.out _ ((Gr.refl w).alloc _)).mono ?_
 rintro _ _ ⟨rfl, rfl⟩
 have e0 := World.size_alloc w (.cells nodeZ 47)
 have HP := ξ (ξbc w #[.string kSplit, .string ⟨d.toArray⟩, .string ⟨#[48]⟩] (.slice (some ⟨w.heap.size + 1, 1, none⟩) 2 2) 9 108 106 47)
 go_wp2_with fail
 clear e0
 generalize hbn : w.heap.size + 1 + 1 + 1 + 1 = bn at HP ⊢
 generalize hbx : w.heap.size + 1 + 1 + 1 = bx at HP ⊢
 generalize hbr : w.heap.size + 1 + 1 = br at HP ⊢
 generalize hbl : w.heap.size + 1 = bl at HP ⊢
 generalize hb0 : w.heap.size = b0 at HP ⊢
 clear hbn hbx hbr hbl
 generalize ((((w.alloc _).alloc _).alloc _).alloc _).alloc _ = W at HP ⊢
 generalize w.alloc _ = u at HP
 have hmk := run_makeMap (P := Tryz.prog) 112 W
 have hs0 := ξj (P := Tryz.prog) (w := W) (es := ((formsE bx bn).extract 0 0)) (c := 0) (t := 112) (key := .string kFarkas) (fnN 62 bx bn) Tryz.underlying112 Tryz.underlying9 ξ0t rfl rfl
 have hs1 := ξj (P := Tryz.prog) (w := W) (es := ((formsE bx bn).extract 0 1)) (c := 1) (t := 112) (key := .string kEmpty) (fnN 64 bx bn) Tryz.underlying112 Tryz.underlying9 ξ0t rfl rfl
 have hs2 := ξj (P := Tryz.prog) (w := W) (es := ((formsE bx bn).extract 0 2)) (c := 2) (t := 112) (key := .string kSplit) (fnN 66 bx bn) Tryz.underlying112 Tryz.underlying9 ξ0t rfl rfl
 have hs3 := ξj (P := Tryz.prog) (w := W) (es := ((formsE bx bn).extract 0 3)) (c := 3) (t := 112) (key := .string kRound) (fnN 67 bx bn) Tryz.underlying112 Tryz.underlying9 ξ0t rfl rfl
 have hs4 := ξj (P := Tryz.prog) (w := W) (es := ((formsE bx bn).extract 0 4)) (c := 4) (t := 112) (key := .string kCover) (fnN 68 bx bn) Tryz.underlying112 Tryz.underlying9 ξ0t rfl rfl
 simp only [formsE, fnN, kFarkas, kEmpty, kSplit, kRound, kCover, List.push_toArray, List.nil_append, List.cons_append, Array.push_empty, Nat.zero_add, Nat.reduceAdd, List.extract_toArray, List.extract_eq_take_drop, List.take, List.drop, Nat.sub_zero] at hs0 hs1 hs2 hs3 hs4
 have hma : ξ0P (W.alloc (.map (formsE bx bn) 5)) W.heap.size (formsL bx bn) := ⟨_, _, (MapKept.heap_alloc W _).1, rfl⟩
 have gm : Gr W (W.alloc (.map (formsE bx bn) 5)) := (Gr.refl _).alloc _
 have hl := (ξz hma Tryz.underlying112 Tryz.underlying9 ξ0t (ξ7I bx bn)).1
 simp only [formsE, fnN, kFarkas, kEmpty, kSplit, kRound, kCover] at hl
 have hq := fun w => ξa4 (w := w)
 have c0 := (HP.out.cl.grow gm).at 0 rfl
 have x0 := (HP.out.cx.grow gm).at 0 rfl
 simp only [formsE, fnN, kFarkas, kEmpty, kSplit, kRound, kCover] at c0 x0
 simp only [formsE, fnN, kFarkas, kEmpty, kSplit, kRound, kCover] at gm
 have HP := ξ (HP.out.grow gm)
 clear hma gm
 rw [hmk]
 go_wp2_with fail
 clear hmk hs0 hs1 hs2 hs3 hs4 hl hq c0 x0
 generalize W.heap.size = bm
 generalize W.alloc _ = WM at HP ⊢
 refine (ξbk u WM bx br bn bl 1 0 d [48] v 0 HP.out.env (by have := HP.out.ne; omega) (HP.out.cl.at 1 rfl) (HP.out.cl.at 2 rfl) HPI.out (by decide +kernel) HL.out (by decide)).mono ?_
 rintro _ W6 ⟨r6, q, rfl, he⟩
 have HE := ξ he
 clear he
 unfold nodeA at HE
 go_wp2_with fail
 have HN := ξ HP.out.ne
 have hI0 : PdI bx br bn (q) #[.int .i64 2, .slice none 0 0, .int .i64 v, .int .i64 0, .int .i64 0, .slice none 0 0, .int .i64 0, .slice none 0 0] W6.drew := ⟨HE.out.x, HE.out.r, HE.out.n⟩
 have y0 : ∀ w', PdI bx br bn (q) #[.int .i64 2, .slice none 0 0, .int .i64 v, .int .i64 0, .int .i64 0, .slice none 0 0, .int .i64 0, .slice none 0 0] w' → w'.cell? ⟨bx, 0, none⟩ = some (.pointer (some ⟨br, 0, none⟩)) := fun w' h => h.1.at 0 rfl
 have y1 : ∀ w', PdI bx br bn (q) #[.int .i64 2, .slice none 0 0, .int .i64 v, .int .i64 0, .int .i64 0, .slice none 0 0, .int .i64 0, .slice none 0 0] w' → w'.cell? ⟨br, 0, none⟩ = some (.slice q 0 0) := fun w' h => h.2.1.at 0 rfl
 have y2 : ∀ w', PdI bx br bn (q) #[.int .i64 2, .slice none 0 0, .int .i64 v, .int .i64 0, .int .i64 0, .slice none 0 0, .int .i64 0, .slice none 0 0] w' → w'.cell? ⟨br, 1, none⟩ = some (.bool false) := fun w' h => h.2.1.at 1 rfl
 have z0 : ∀ w', PdI bx br bn (q) #[.int .i64 2, .slice none 0 0, .int .i64 v, .int .i64 0, .int .i64 0, .slice none 0 0, .int .i64 0, .slice none 0 0] w' → w'.cell? ⟨bn, 0, none⟩ = some (.int .i64 2) := fun w' h => h.2.2.at 0 rfl
 have z1 : ∀ w', PdI bx br bn (q) #[.int .i64 2, .slice none 0 0, .int .i64 v, .int .i64 0, .int .i64 0, .slice none 0 0, .int .i64 0, .slice none 0 0] w' → w'.cell? ⟨bn, 1, none⟩ = some (.slice none 0 0) := fun w' h => h.2.2.at 1 rfl
 have z2 : ∀ w', PdI bx br bn (q) #[.int .i64 2, .slice none 0 0, .int .i64 v, .int .i64 0, .int .i64 0, .slice none 0 0, .int .i64 0, .slice none 0 0] w' → w'.cell? ⟨bn, 2, none⟩ = some (.int .i64 v) := fun w' h => h.2.2.at 2 rfl
 have z3 : ∀ w', PdI bx br bn (q) #[.int .i64 2, .slice none 0 0, .int .i64 v, .int .i64 0, .int .i64 0, .slice none 0 0, .int .i64 0, .slice none 0 0] w' → w'.cell? ⟨bn, 3, none⟩ = some (.int .i64 0) := fun w' h => h.2.2.at 3 rfl
 have z4 : ∀ w', PdI bx br bn (q) #[.int .i64 2, .slice none 0 0, .int .i64 v, .int .i64 0, .int .i64 0, .slice none 0 0, .int .i64 0, .slice none 0 0] w' → w'.cell? ⟨bn, 4, none⟩ = some (.int .i64 0) := fun w' h => h.2.2.at 4 rfl
 have z5 : ∀ w', PdI bx br bn (q) #[.int .i64 2, .slice none 0 0, .int .i64 v, .int .i64 0, .int .i64 0, .slice none 0 0, .int .i64 0, .slice none 0 0] w' → w'.cell? ⟨bn, 5, none⟩ = some (.slice none 0 0) := fun w' h => h.2.2.at 5 rfl
 have z6 : ∀ w', PdI bx br bn (q) #[.int .i64 2, .slice none 0 0, .int .i64 v, .int .i64 0, .int .i64 0, .slice none 0 0, .int .i64 0, .slice none 0 0] w' → w'.cell? ⟨bn, 6, none⟩ = some (.int .i64 0) := fun w' h => h.2.2.at 6 rfl
 have z7 : ∀ w', PdI bx br bn (q) #[.int .i64 2, .slice none 0 0, .int .i64 v, .int .i64 0, .int .i64 0, .slice none 0 0, .int .i64 0, .slice none 0 0] w' → w'.cell? ⟨bn, 7, none⟩ = some (.slice none 0 0) := fun w' h => h.2.2.at 7 rfl
 refine Inv.ξW (PdI bx br bn (q) #[.int .i64 2, .slice none 0 0, .int .i64 v, .int .i64 0, .int .i64 0, .slice none 0 0, .int .i64 0, .slice none 0 0]) (.read 0 (.read 1 (.read 2 (.read 3 (.read 4 (.read 5 (.read 6 (.read 7 (.read 8 (.read 9 (.read 10 (.read 11 (.read 12 (.read 13 (.one 14 (.read 15 .stop)))))))))))))))) hI0 (by kernel_rfl) (by kernel_rfl) rfl (by kernel_rfl) (fun _ _ d _ _ h => by cases d <;> exact h) ?_
 have HG7 := ξ (show Gr u W6.drew from HE.out.g.drew)
 have HI := ξ hI0
 have HG67 := ξ (show Gr W6 W6.drew from (Gr.refl W6).drew)
 clear hI0
 generalize W6.drew = W7 at HG7 HG67 HI ⊢
 have HC := ξ (HP.out.c0.grow HG7.out)
 repeat (first | (refine Inv.ξP (v := ?_) rfl rfl (fun w' hg => ?_) (fun K hK => ?_); rotate_left; (go_simp; rfl); go_simp; refine hK _ _ ?_; clear hK K))
 clear y0 y1 y2 z0 z1 z2 z3 z4 z5 z6 z7
 have g0 := HC.out.at 0 rfl
 have f0 := ξ0.f HC.out 0
 have g1 := HC.out.at 1 rfl
 have f1 := ξ0.f HC.out 1
 have g2 := HC.out.at 2 rfl
 have f2 := ξ0.f HC.out 2
 have g3 := HC.out.at 3 rfl
 have f3 := ξ0.f HC.out 3
 have g4 := HC.out.at 4 rfl
 have f4 := ξ0.f HC.out 4
 have g5 := HC.out.at 5 rfl
 have f5 := ξ0.f HC.out 5
 have g6 := HC.out.at 6 rfl
 have f6 := ξ0.f HC.out 6
 have g7 := HC.out.at 7 rfl
 have f7 := ξ0.f HC.out 7
 have hx := fill8 (.int .i64 2) (.slice none 0 0) (.int .i64 v) (.int .i64 0) (.int .i64 0) (.slice none 0 0) (.int .i64 0) (.slice none 0 0) HC.out
 unfold set8 at hx
 have HX := ξ (And.intro hx.2.1 (And.intro (HI.out.upd hx.2.2 (by have := HN.out; omega) (by have := HN.out; omega) (by have := HN.out; omega)) (And.intro (show Gr w _ from Below.grown (HP.out.g0.trans HG7.out) hx.1 (HP.out.g0.trans HG7.out).size (fun k e => by cases e; exact Nat.le_of_eq HN.out.1)) (And.intro hx.1 hx.2.2))))
 clear hx
 refine Inv.ξ14 rfl rfl (fun K hK => ?_)
 go_simp
 generalize World.setCell _ _ _ = W8 at HX ⊢
 refine ⟨HX.out.2.1, hK _ _ ?_⟩
 clear hK K g0 g1 g2 g3 g4 g5 g6 g7 f0 f1 f2 f3 f4 f5 f6 f7
 repeat (first | (refine Inv.ξP (v := ?_) rfl rfl (fun w' hg => ?_) (fun K hK => ?_); rotate_left; (go_simp; rfl); go_simp; refine hK _ _ ?_; clear hK K))
 refine Inv.ξ0p ?_
 go_wp2_with fail
 have g0 := HX.out.1.at 0 rfl
 have g1 := HX.out.1.at 1 rfl
 have g2 := HX.out.1.at 2 rfl
 have g3 := HX.out.1.at 3 rfl
 have g4 := HX.out.1.at 4 rfl
 have g5 := HX.out.1.at 5 rfl
 have g6 := HX.out.1.at 6 rfl
 have g7 := HX.out.1.at 7 rfl
 refine bodyPost_ret (by simp [results, Tryz.results34, go_sem, g0, g1, g2, g3, g4, g5, g6, g7]; rfl) rfl ?_
 exact ⟨_, rfl, HX.out.2.2.1, rfl⟩
theorem ξ4F (w : World) (ln s : List UInt8) (z : Int) (hz : OneW s z) (m : Int) (hm : w.cell? ⟨2, 0, none⟩ = some (.int .i64 m))
  (hs : ∀ w', Gr w w' → Calls Tryz.prog 61 #[.string ⟨ln.toArray⟩, .string ⟨#[32]⟩] w' fun e w'' => e = .returned (.slice (some ⟨w'.heap.size, 0, none⟩) 2 2) ∧ w'' = w'.alloc (.cells #[.string kFarkas, .string ⟨s.toArray⟩] 9)) :
  Calls Tryz.prog 34 #[.string ⟨ln.toArray⟩] w (Ret w fun r w' => ∃ p c u, r = .tuple #[.agg (nodeA (nodeF p c)), .bool true] ∧ (∀ a, p = some a → w.heap.size ≤ a.block) ∧ SlL w' 3 encRat (.slice p 1 c) [u] ∧ RatC w' u.v (z : Rat)) := by
 have HZ := ξ hz
 have HM := ξ hm
 have HS := ξ hs
 clear hz hm hs
 go_enter Tryz.func34, Tryz.ntmps34
 go_wp2_with fail
 refine (HS.out _ ((Gr.refl w).alloc _)).mono ?_
 rintro _ _ ⟨rfl, rfl⟩
 have e0 := World.size_alloc w (.cells nodeZ 47)
 have HP := ξ (ξbc w #[.string kFarkas, .string ⟨s.toArray⟩] (.slice (some ⟨w.heap.size + 1, 1, none⟩) 1 1) 9 108 106 47)
 go_wp2_with fail
 clear e0
 generalize hbn : w.heap.size + 1 + 1 + 1 + 1 = bn at HP ⊢
 generalize hbx : w.heap.size + 1 + 1 + 1 = bx at HP ⊢
 generalize hbr : w.heap.size + 1 + 1 = br at HP ⊢
 generalize hbl : w.heap.size + 1 = bl at HP ⊢
 generalize hb0 : w.heap.size = b0 at HP ⊢
 clear hbn hbx hbr hbl
 generalize ((((w.alloc _).alloc _).alloc _).alloc _).alloc _ = W at HP ⊢
 generalize w.alloc _ = u at HP
 have hmk := run_makeMap (P := Tryz.prog) 112 W
 have hs0 := ξj (P := Tryz.prog) (w := W) (es := ((formsE bx bn).extract 0 0)) (c := 0) (t := 112) (key := .string kFarkas) (fnN 62 bx bn) Tryz.underlying112 Tryz.underlying9 ξ0t rfl rfl
 have hs1 := ξj (P := Tryz.prog) (w := W) (es := ((formsE bx bn).extract 0 1)) (c := 1) (t := 112) (key := .string kEmpty) (fnN 64 bx bn) Tryz.underlying112 Tryz.underlying9 ξ0t rfl rfl
 have hs2 := ξj (P := Tryz.prog) (w := W) (es := ((formsE bx bn).extract 0 2)) (c := 2) (t := 112) (key := .string kSplit) (fnN 66 bx bn) Tryz.underlying112 Tryz.underlying9 ξ0t rfl rfl
 have hs3 := ξj (P := Tryz.prog) (w := W) (es := ((formsE bx bn).extract 0 3)) (c := 3) (t := 112) (key := .string kRound) (fnN 67 bx bn) Tryz.underlying112 Tryz.underlying9 ξ0t rfl rfl
 have hs4 := ξj (P := Tryz.prog) (w := W) (es := ((formsE bx bn).extract 0 4)) (c := 4) (t := 112) (key := .string kCover) (fnN 68 bx bn) Tryz.underlying112 Tryz.underlying9 ξ0t rfl rfl
 simp only [formsE, fnN, kFarkas, kEmpty, kSplit, kRound, kCover, List.push_toArray, List.nil_append, List.cons_append, Array.push_empty, Nat.zero_add, Nat.reduceAdd, List.extract_toArray, List.extract_eq_take_drop, List.take, List.drop, Nat.sub_zero] at hs0 hs1 hs2 hs3 hs4
 have hma : ξ0P (W.alloc (.map (formsE bx bn) 5)) W.heap.size (formsL bx bn) := ⟨_, _, (MapKept.heap_alloc W _).1, rfl⟩
 have gm : Gr W (W.alloc (.map (formsE bx bn) 5)) := (Gr.refl _).alloc _
 have hl := (ξz hma Tryz.underlying112 Tryz.underlying9 ξ0t (ξ6F bx bn)).1
 simp only [formsE, fnN, kFarkas, kEmpty, kSplit, kRound, kCover] at hl
 have hq := fun w => ξa4 (w := w)
 have c0 := (HP.out.cl.grow gm).at 0 rfl
 have x0 := (HP.out.cx.grow gm).at 0 rfl
 simp only [formsE, fnN, kFarkas, kEmpty, kSplit, kRound, kCover] at c0 x0
 simp only [formsE, fnN, kFarkas, kEmpty, kSplit, kRound, kCover] at gm
 have HP := ξ (HP.out.grow gm)
 clear hma gm
 rw [hmk]
 go_wp2_with fail
 clear hmk hs0 hs1 hs2 hs3 hs4 hl hq c0 x0
 generalize W.heap.size = bm
 generalize W.alloc _ = WM at HP ⊢
 refine (ξaU u WM br bx bn bl 1 1 s z HZ.out m ((HP.out.g0.trans HP.out.g).cell HM.out) HP.out.env (HP.out.cl.at 1 rfl)).mono ?_
 rintro _ W6 ⟨r6, p, c', y, rfl, he, hpb, h1, h2⟩
 have HE := ξ he
 have HY := ξ (show _ ∧ _ ∧ _ from ⟨hpb, h1, h2⟩)
 clear he hpb h1 h2
 unfold nodeA at HE
 go_wp2_with fail
 have HN := ξ HP.out.ne
 have hI0 : PdI bx br bn (none) #[.int .i64 0, .slice p 1 c', .int .i64 0, .int .i64 0, .int .i64 0, .slice none 0 0, .int .i64 0, .slice none 0 0] W6.drew := ⟨HE.out.x, HE.out.r, HE.out.n⟩
 have y0 : ∀ w', PdI bx br bn (none) #[.int .i64 0, .slice p 1 c', .int .i64 0, .int .i64 0, .int .i64 0, .slice none 0 0, .int .i64 0, .slice none 0 0] w' → w'.cell? ⟨bx, 0, none⟩ = some (.pointer (some ⟨br, 0, none⟩)) := fun w' h => h.1.at 0 rfl
 have y1 : ∀ w', PdI bx br bn (none) #[.int .i64 0, .slice p 1 c', .int .i64 0, .int .i64 0, .int .i64 0, .slice none 0 0, .int .i64 0, .slice none 0 0] w' → w'.cell? ⟨br, 0, none⟩ = some (.slice none 0 0) := fun w' h => h.2.1.at 0 rfl
 have y2 : ∀ w', PdI bx br bn (none) #[.int .i64 0, .slice p 1 c', .int .i64 0, .int .i64 0, .int .i64 0, .slice none 0 0, .int .i64 0, .slice none 0 0] w' → w'.cell? ⟨br, 1, none⟩ = some (.bool false) := fun w' h => h.2.1.at 1 rfl
 have z0 : ∀ w', PdI bx br bn (none) #[.int .i64 0, .slice p 1 c', .int .i64 0, .int .i64 0, .int .i64 0, .slice none 0 0, .int .i64 0, .slice none 0 0] w' → w'.cell? ⟨bn, 0, none⟩ = some (.int .i64 0) := fun w' h => h.2.2.at 0 rfl
 have z1 : ∀ w', PdI bx br bn (none) #[.int .i64 0, .slice p 1 c', .int .i64 0, .int .i64 0, .int .i64 0, .slice none 0 0, .int .i64 0, .slice none 0 0] w' → w'.cell? ⟨bn, 1, none⟩ = some (.slice p 1 c') := fun w' h => h.2.2.at 1 rfl
 have z2 : ∀ w', PdI bx br bn (none) #[.int .i64 0, .slice p 1 c', .int .i64 0, .int .i64 0, .int .i64 0, .slice none 0 0, .int .i64 0, .slice none 0 0] w' → w'.cell? ⟨bn, 2, none⟩ = some (.int .i64 0) := fun w' h => h.2.2.at 2 rfl
 have z3 : ∀ w', PdI bx br bn (none) #[.int .i64 0, .slice p 1 c', .int .i64 0, .int .i64 0, .int .i64 0, .slice none 0 0, .int .i64 0, .slice none 0 0] w' → w'.cell? ⟨bn, 3, none⟩ = some (.int .i64 0) := fun w' h => h.2.2.at 3 rfl
 have z4 : ∀ w', PdI bx br bn (none) #[.int .i64 0, .slice p 1 c', .int .i64 0, .int .i64 0, .int .i64 0, .slice none 0 0, .int .i64 0, .slice none 0 0] w' → w'.cell? ⟨bn, 4, none⟩ = some (.int .i64 0) := fun w' h => h.2.2.at 4 rfl
 have z5 : ∀ w', PdI bx br bn (none) #[.int .i64 0, .slice p 1 c', .int .i64 0, .int .i64 0, .int .i64 0, .slice none 0 0, .int .i64 0, .slice none 0 0] w' → w'.cell? ⟨bn, 5, none⟩ = some (.slice none 0 0) := fun w' h => h.2.2.at 5 rfl
 have z6 : ∀ w', PdI bx br bn (none) #[.int .i64 0, .slice p 1 c', .int .i64 0, .int .i64 0, .int .i64 0, .slice none 0 0, .int .i64 0, .slice none 0 0] w' → w'.cell? ⟨bn, 6, none⟩ = some (.int .i64 0) := fun w' h => h.2.2.at 6 rfl
 have z7 : ∀ w', PdI bx br bn (none) #[.int .i64 0, .slice p 1 c', .int .i64 0, .int .i64 0, .int .i64 0, .slice none 0 0, .int .i64 0, .slice none 0 0] w' → w'.cell? ⟨bn, 7, none⟩ = some (.slice none 0 0) := fun w' h => h.2.2.at 7 rfl
 refine Inv.ξW (PdI bx br bn (none) #[.int .i64 0, .slice p 1 c', .int .i64 0, .int .i64 0, .int .i64 0, .slice none 0 0, .int .i64 0, .slice none 0 0]) (.read 0 (.read 1 (.read 2 (.read 3 (.read 4 (.read 5 (.read 6 (.read 7 (.read 8 (.read 9 (.read 10 (.read 11 (.read 12 (.read 13 (.one 14 (.read 15 .stop)))))))))))))))) hI0 (by kernel_rfl) (by kernel_rfl) rfl (by kernel_rfl) (fun _ _ d _ _ h => by cases d <;> exact h) ?_
 have HG7 := ξ (show Gr u W6.drew from HE.out.g.drew)
 have HI := ξ hI0
 have HG67 := ξ (show Gr W6 W6.drew from (Gr.refl W6).drew)
 clear hI0
 generalize W6.drew = W7 at HG7 HG67 HI ⊢
 have HC := ξ (HP.out.c0.grow HG7.out)
 repeat (first | (refine Inv.ξP (v := ?_) rfl rfl (fun w' hg => ?_) (fun K hK => ?_); rotate_left; (go_simp; rfl); go_simp; refine hK _ _ ?_; clear hK K))
 clear y0 y1 y2 z0 z1 z2 z3 z4 z5 z6 z7
 have g0 := HC.out.at 0 rfl
 have f0 := ξ0.f HC.out 0
 have g1 := HC.out.at 1 rfl
 have f1 := ξ0.f HC.out 1
 have g2 := HC.out.at 2 rfl
 have f2 := ξ0.f HC.out 2
 have g3 := HC.out.at 3 rfl
 have f3 := ξ0.f HC.out 3
 have g4 := HC.out.at 4 rfl
 have f4 := ξ0.f HC.out 4
 have g5 := HC.out.at 5 rfl
 have f5 := ξ0.f HC.out 5
 have g6 := HC.out.at 6 rfl
 have f6 := ξ0.f HC.out 6
 have g7 := HC.out.at 7 rfl
 have f7 := ξ0.f HC.out 7
 have hx := fill8 (.int .i64 0) (.slice p 1 c') (.int .i64 0) (.int .i64 0) (.int .i64 0) (.slice none 0 0) (.int .i64 0) (.slice none 0 0) HC.out
 unfold set8 at hx
 have HX := ξ (And.intro hx.2.1 (And.intro (HI.out.upd hx.2.2 (by have := HN.out; omega) (by have := HN.out; omega) (by have := HN.out; omega)) (And.intro (show Gr w _ from Below.grown (HP.out.g0.trans HG7.out) hx.1 (HP.out.g0.trans HG7.out).size (fun k e => by cases e; exact Nat.le_of_eq HN.out.1)) (And.intro hx.1 hx.2.2))))
 clear hx
 refine Inv.ξ14 rfl rfl (fun K hK => ?_)
 go_simp
 generalize World.setCell _ _ _ = W8 at HX ⊢
 refine ⟨HX.out.2.1, hK _ _ ?_⟩
 clear hK K g0 g1 g2 g3 g4 g5 g6 g7 f0 f1 f2 f3 f4 f5 f6 f7
 repeat (first | (refine Inv.ξP (v := ?_) rfl rfl (fun w' hg => ?_) (fun K hK => ?_); rotate_left; (go_simp; rfl); go_simp; refine hK _ _ ?_; clear hK K))
 refine Inv.ξ0p ?_
 go_wp2_with fail
 have g0 := HX.out.1.at 0 rfl
 have g1 := HX.out.1.at 1 rfl
 have g2 := HX.out.1.at 2 rfl
 have g3 := HX.out.1.at 3 rfl
 have g4 := HX.out.1.at 4 rfl
 have g5 := HX.out.1.at 5 rfl
 have g6 := HX.out.1.at 6 rfl
 have g7 := HX.out.1.at 7 rfl
 refine bodyPost_ret (by simp [results, Tryz.results34, go_sem, g0, g1, g2, g3, g4, g5, g6, g7]; rfl) rfl ?_
 have g7' : Gr W6 W7 := HG67.out
 have hg8 := HX.out.2.2.2.1
 refine ⟨_, rfl, HX.out.2.2.1, p, c', y, rfl, fun a ha => Nat.le_trans HP.out.g0.size (HY.out.1 a ha), SlL.grownA (SlL.grow HY.out.2.1 g7') hg8 (fun a ha e => ?_), ξ2y (HY.out.2.2.grow g7') (Dk.upd (NoU.of HC.out (by simp)) HX.out.2.2.2.2)⟩
 have h1 := HY.out.1 a ha
 have h2 := HN.out
 cases e
 omega
end Prf
end Go.Proofs.YtcjgimlcefhhmaaGreatDoor
