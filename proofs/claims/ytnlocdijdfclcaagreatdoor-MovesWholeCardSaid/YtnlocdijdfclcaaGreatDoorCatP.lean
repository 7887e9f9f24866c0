/-
  exodusref15.Names.
  exodusref15.names.
-/
import Derived.Test.YtnlocdijdfclcaaGreatDoorCatM
import Derived.Test.YtnlocdijdfclcaaGreatDoorCatN
import Derived.Test.YtnlocdijdfclcaaGreatDoorTree
namespace Go.Proofs.YtnlocdijdfclcaaGreatDoor
open Go.RowKit Go.Lib Lex
set_option linter.unusedVariables false
set_option linter.unusedSimpArgs false

section append
variable {α : Type} {enc : α → List Value} {sz : Nat} {P : Program} {o : Oper} {a : Act} {K : Act → World → Prop} {Q : Exit → Act → World → Prop} {w : World}
theorem wp_appendL (s x : Operand) (t e : TypeId) (z : Value) (bytes : Nat) (ho : o.op = .call { callee := .builtin .append, args := #[s, x], argTypes := #[t, t] })
  (ht : P.underlying t = some (.slice e)) (hinfo : (P.info? e).map (fun i => (i.zero, i.size, i.bytes)) = some (some z, sz, bytes)) (hzs : z.cells.size = sz) (hsz : 0 < sz) (he : ∀ x, (enc x).length = sz) (h1 : ∀ x, ∀ u ∈ enc x, u.oneCell' = true)
  (base : Nat) (v vx : Value) (l m : List α) (hs : a.eval s = v) (hown : OwnL w base e sz enc v l) (hx : a.eval x = vx) (hm : SlL w sz enc vx m)
  (hlen : (l.length + m.length) * bytes ≤ 140737488355328) (hlen2 : l.length + m.length ≤ 1000000000000) (hbase : base ≤ w.heap.size)
  (h : ∀ v' w', OwnL w' base e sz enc v' (l ++ m) → w.grownBy w' v.ownBlock → K (a.put o.dst v') w') : Oper.wp P o a w K Q := by
 obtain ⟨i0, hi, hz0, hz1, hz2⟩ := info_parts hinfo
 obtain ⟨hd, p, c, rfl, k1, k2, k3⟩ := hm
 rcases k3 with rfl | ⟨b, off, rfl, hc⟩
 ·have hm0 : m = [] := List.eq_nil_of_length_eq_zero (by omega)
  subst hm0
  have h' := h v w (by simpa using hown) ⟨rfl, rfl, rfl, Nat.le_refl _, fun _ _ _ => rfl⟩
  have hr : (Builtin.append_ #[t, t] o.type #[v, .slice p 0 0]).run P w = .ok v w := by
   rcases hown.2 with ⟨rfl, _⟩ | ⟨g, cap, cur, rfl, _, hh, hn, _⟩
   ·cases p <;> simp [Builtin.append_, run_underlying ht, sizeOf, typeInfo, hi, Builtin.lenOf, Builtin.firstCells, loadCells, loadCellsFrom]
   ·have hn' : l.length ≤ cap := hn
    cases p <;> simp [Builtin.append_, run_underlying ht, sizeOf, typeInfo, hi, Builtin.lenOf, Builtin.firstCells, loadCells, loadCellsFrom, hn', storeCells]
  unfold Oper.wp execOp
  simp only [ho, resolve, invoke, builtin, Sem.run_bind, Sem.run_pure, Result.andThen_ok, List.map_toArray, List.map_cons, List.map_nil, hs, hx, List.length_nil, hr]
  exact h'
 ·refine wp_append_own (w := w) s x t ho base e i0 z sz bytes ht hi hz0 hz1 hz2 hzs hsz v l.length (l.flatMap enc) hs hown ⟨b, off, none⟩ m.length c (m.flatMap enc) hx
   (flat_len he m) (fun j u hu => ?_) (fun u hu => ?_) (by unfold maxLen; omega) hlen hbase (fun v' w' hown' hg _ => ?_)
  ·rw [addr_add0]; exact hc j u hu
  ·obtain ⟨y, _, hy⟩ := List.mem_flatMap.1 hu
   exact h1 y u hy
  ·refine h v' w' ?_ hg
   unfold OwnL
   rw [List.flatMap_append, List.length_append]
   exact hown'
end append
theorem encS_one : ∀ x, ∀ u ∈ encS x, u.oneCell' = true := fun x u hu => by
 simp [encS] at hu; subst hu; rfl
abbrev OwnS (w : World) (base : Nat) (v : Value) (l : List (List UInt8)) : Prop := OwnL w base 9 1 encS v l
theorem str_info : (Tryz.prog.info? 9).map (fun i => (i.zero, i.size, i.bytes)) = some (some (.string ⟨#[]⟩), 1, 16) := by kernel_rfl
theorem take_map {α : Type} {f : α → List UInt8} {l : List α} {k : Nat} {x : α} (h : l[k]? = some x) (pre : List (List UInt8)) : pre ++ (l.take (k + 1)).map f = (pre ++ (l.take k).map f) ++ [f x] := by
 rw [List.append_assoc, List.take_add_one, h, List.map_append]; rfl
set_option maxRecDepth 100000 in
set_option maxHeartbeats 800000 in
theorem ref_Names (w : World) (P : Ptrs) (M : Mdl) (hm : MdlAt w P M) (hf : Few M) :
  Calls Tryz.prog 95 #[.agg (mcells P M)] w (Ret w fun r w' => StrL w' r (names M)) := by
 have HF := Lib.hid hf.1
 clear hf
 have HM := Lib.hid hm
 have B := Cells.new w (mcells P M) 29
 clear hm
 have m0 := mc0 B.2 _ (Gr.refl _)
 have m1 := mc1 B.2 _ (Gr.refl _)
 have m2 := mc2 B.2 _ (Gr.refl _)
 have m3 := mc3 B.2 _ (Gr.refl _)
 have m4 := mc4 B.2 _ (Gr.refl _)
 have m5 := mc5 B.2 _ (Gr.refl _)
 have m6 := mc6 B.2 _ (Gr.refl _)
 have m7 := mc7 B.2 _ (Gr.refl _)
 have m8 := mc8 B.2 _ (Gr.refl _)
 have m9 := mc9 B.2 _ (Gr.refl _)
 have m10 := mc10 B.2 _ (Gr.refl _)
 unfold mcells at B m0 m1 m2 m3 m4 m5 m6 m7 m8 m9 m10 ⊢
 go_enter Tryz.func95, Tryz.ntmps95
 go_wp2_with fail
 clear m0 m1 m2 m3 m4 m5 m6 m7 m8 m9 m10
 generalize w.heap.size = bm at B ⊢
 generalize w.alloc _ = W at B ⊢
 obtain ⟨g0, tm⟩ := B
 have TM := Lib.hid (show Cells W bm (mcells P M) from tm)
 have G := Lib.hid g0
 have HM := Lib.hid (HM.out.grow g0)
 clear g0 tm
 have m0 := mc0 TM.out _ (Gr.refl _)
 have m1 := mc1 TM.out _ (Gr.refl _)
 have m2 := mc2 TM.out _ (Gr.refl _)
 have m3 := mc3 TM.out _ (Gr.refl _)
 have m4 := mc4 TM.out _ (Gr.refl _)
 have m5 := mc5 TM.out _ (Gr.refl _)
 have m6 := mc6 TM.out _ (Gr.refl _)
 have m7 := mc7 TM.out _ (Gr.refl _)
 have m8 := mc8 TM.out _ (Gr.refl _)
 have m9 := mc9 TM.out _ (Gr.refl _)
 have m10 := mc10 TM.out _ (Gr.refl _)
 clear m0 m1 m2 m3 m4 m5 m6 m7 m8 m9 m10
 obtain ⟨p0, c0, p1, c1, p2, c2, p3, c3, p4, c4, p5, c5, p6, c6⟩ := P
 try dsimp only
 have m0 := mc0 TM.out
 have m1 := mc1 TM.out
 have m2 := mc2 TM.out
 have m3 := mc3 TM.out
 have m4 := mc4 TM.out
 have m5 := mc5 TM.out
 have m6 := mc6 TM.out
 have m7 := mc7 TM.out
 have m8 := mc8 TM.out
 have m9 := mc9 TM.out
 have m10 := mc10 TM.out
 try dsimp only at m0 m1 m2 m3 m4 m5 m6 m7 m8 m9 m10
 refine wp_region_loose W (.read 1 (.read 2 (.read 4 (.read 5 (.one 0 (.one 3 (.one 6 (.one 7 .stop)))))))) (Gr.refl _) (by kernel_rfl) (by kernel_rfl) rfl (by kernel_rfl) (fun _ _ d _ _ h => by cases d <;> exact h) ?_
 have g0 : Gr W W.drew := (Gr.refl _).drew
 repeat (refine wpL_read (v := ?_) rfl rfl (fun w' hg => ?_) (fun K hK => ?_); rotate_left; (go_simp; rfl); go_simp; refine hK _ _ ?_; clear hK K)
 clear m0 m1 m2 m3 m4 m5 m6 m7 m8 m9 m10
 refine wpL_do rfl rfl (fun K hK => ?_)
 go_simp
 have B0 := (OwnL.made0 (sz := 1) (enc := encS) W W.heap.size 9 (Nat.le_refl _)).grow ((Gr.refl _).drew)
 have g1 : Gr W (W.alloc (.cells #[] 9)).drew := ((Gr.refl W).alloc _).drew
 refine ⟨g1, hK _ _ ?_⟩
 clear hK K g0
 have HO := Lib.hid (show OwnS _ _ _ _ from B0)
 clear B0
 generalize (W.alloc _).drew = W1 at HO g1 ⊢
 generalize Value.slice (some ⟨W.heap.size, 0, none⟩) 0 0 = v0 at HO ⊢
 refine wpL_do rfl rfl (fun K hK => ?_)
 refine wp_appendL _ _ 22 9 _ 16 rfl Tryz.underlying22 str_info rfl (by decide) encS_len encS_one W.heap.size v0 (.slice p0 M.sites.length c0) [] M.sites rfl HO.out rfl (HM.out.sites.grow g1) (by have := HF.out; simp; omega) (by have := HF.out; simp; omega) g1.size ?_
 intro v1 W2 ho k1
 have g2 := HO.out.gr g1 k1
 refine ⟨g2, hK _ _ ?_⟩
 have HO := Lib.hid (show OwnS _ _ _ _ from ho)
 clear hK K k1 ho g1
 refine wpL_do rfl rfl (fun K hK => ?_)
 refine wp_appendL _ _ 22 9 _ 16 rfl Tryz.underlying22 str_info rfl (by decide) encS_len encS_one W.heap.size v1 (.slice p1 M.feeds.length c1) ([] ++ M.sites) M.feeds rfl HO.out rfl (HM.out.feeds.grow g2) (by have := HF.out; simp; omega) (by have := HF.out; simp; omega) g2.size ?_
 intro v2 W3 ho k1
 have g3 := HO.out.gr g2 k1
 refine ⟨g3, hK _ _ ?_⟩
 rw [List.nil_append] at ho
 have HO := Lib.hid (show OwnS _ _ _ _ from ho)
 clear hK K k1 ho g2
 refine wpL_do rfl rfl (fun K hK => ?_)
 go_simp
 refine hK _ _ ?_
 clear hK K
 refine wpL_stop ?_
 have GW := Lib.hid g3
 clear g3
 go_wp2_with fail
 go_loopw [3, 4] (fun v i w1 => ∃ k : Nat, i = .int .i64 k ∧ k ≤ M.racks.length ∧ OwnS w1 W.heap.size v ((M.sites ++ M.feeds) ++ (M.racks.take k).map RackM.name) ∧ Gr W w1) (fun _ i _ => M.racks.length - (RowKit.intOf i).toNat)
 case atStart => exact ⟨0, rfl, Nat.zero_le _, by simpa using HO.out, GW.out⟩
 case round =>
  clear HO GW
  obtain ⟨k, rfl, hk, ho, hg⟩ := hrel
  have HO := Lib.hid ho
  have GW := Lib.hid hg
  clear ho hg
  have hB : M.racks.length ≤ 48 := by have := HF.out; omega
  have m2 := mc2 TM.out _ GW.out
  have m3 := mc3 TM.out _ GW.out
  have m5 := mc5 TM.out _ GW.out
  try dsimp only at m2 m3 m5
  by_cases hlt : k < M.racks.length
  ·have hlt' : (k : Int) < (M.racks.length : Int) := by omega
   obtain ⟨b, o, x, rfl, hx, hc⟩ := rack_at HM.out.racks rfl hlt
   obtain ⟨c0x, c1x, c2x⟩ := hc _ GW.out
   have HX := Lib.hid hx
   clear hc hx
   go_wp2_with (at_builtin; refine Hold.hold ?_)
   have B := SlL.new wr 9 encS_len [x.name] #[.string ⟨x.name.toArray⟩] 1 rfl rfl (by decide)
   clear m2 m3 m5
   generalize wr.heap.size = b8 at B ⊢
   generalize wr.alloc _ = w8 at B ⊢
   obtain ⟨g8, t8⟩ := B
   refine Hold.go ?_
   refine wpList_appendL rfl _ _ 22 9 _ 16 rfl Tryz.underlying22 str_info rfl (by decide) encS_len encS_one W.heap.size _ _ _ [x.name] rfl (HO.out.grow g8) rfl t8 (by have := HF.out; simp; omega) (by have := HF.out; simp; omega) ((GW.out.trans g8).size) ?_
   intro v' w9 ho9 k9
   have G9 := Lib.hid ((HO.out.grow g8).gr (GW.out.trans g8) k9)
   rw [← take_map HX.out] at ho9
   have H9 := Lib.hid ho9
   clear ho9 k9 g8 t8
   go_wp2_with fail
   refine ⟨⟨k + 1, by go_num, by omega, H9.out, G9.out⟩, by simp [RowKit.intOf]; omega⟩
  ·obtain rfl : k = M.racks.length := by omega
   have HO := Lib.hid (by have := HO.out; rw [List.take_length] at this; exact this)
   go_wp2_with fail
   go_loopw [3, 5] (fun v i w1 => ∃ k : Nat, i = .int .i64 k ∧ k ≤ M.machs.length ∧ OwnS w1 W.heap.size v ((M.sites ++ M.feeds ++ M.racks.map RackM.name) ++ (M.machs.take k).map MachM.name) ∧ Gr W w1) (fun _ i _ => M.machs.length - (RowKit.intOf i).toNat)
   case atStart => exact ⟨0, rfl, Nat.zero_le _, by simpa using HO.out, GW.out⟩
   case round =>
    clear HO GW
    obtain ⟨k, rfl, hk, ho, hg⟩ := hrel
    have HO := Lib.hid ho
    have GW := Lib.hid hg
    clear ho hg
    have hB : M.machs.length ≤ 48 := by have := HF.out; omega
    have m2 := mc2 TM.out _ GW.out
    have m3 := mc3 TM.out _ GW.out
    have m5 := mc5 TM.out _ GW.out
    try dsimp only at m2 m3 m5
    by_cases hlt : k < M.machs.length
    ·have hlt' : (k : Int) < (M.machs.length : Int) := by omega
     obtain ⟨b, o, x, rfl, hx, hc⟩ := mach_at HM.out.machs rfl hlt
     obtain ⟨c0x, c1x, c2x⟩ := hc _ GW.out
     have HX := Lib.hid hx
     clear hc hx
     go_wp2_with (at_builtin; refine Hold.hold ?_)
     have B := SlL.new wr 9 encS_len [x.name] #[.string ⟨x.name.toArray⟩] 1 rfl rfl (by decide)
     clear m2 m3 m5
     generalize wr.heap.size = b8 at B ⊢
     generalize wr.alloc _ = w8 at B ⊢
     obtain ⟨g8, t8⟩ := B
     refine Hold.go ?_
     refine wpList_appendL rfl _ _ 22 9 _ 16 rfl Tryz.underlying22 str_info rfl (by decide) encS_len encS_one W.heap.size _ _ _ [x.name] rfl (HO.out.grow g8) rfl t8 (by have := HF.out; simp; omega) (by have := HF.out; simp; omega) ((GW.out.trans g8).size) ?_
     intro v' w9 ho9 k9
     have G9 := Lib.hid ((HO.out.grow g8).gr (GW.out.trans g8) k9)
     rw [← take_map HX.out] at ho9
     have H9 := Lib.hid ho9
     clear ho9 k9 g8 t8
     go_wp2_with fail
     refine ⟨⟨k + 1, by go_num, by omega, H9.out, G9.out⟩, by simp [RowKit.intOf]; omega⟩
    ·obtain rfl : k = M.machs.length := by omega
     have HO := Lib.hid (by have := HO.out; rw [List.take_length] at this; exact this)
     go_wp2_with fail
     go_loopw [3, 6] (fun v i w1 => ∃ k : Nat, i = .int .i64 k ∧ k ≤ M.items.length ∧ OwnS w1 W.heap.size v ((M.sites ++ M.feeds ++ M.racks.map RackM.name ++ M.machs.map MachM.name) ++ (M.items.take k).map ItemM.name) ∧ Gr W w1) (fun _ i _ => M.items.length - (RowKit.intOf i).toNat)
     case atStart => exact ⟨0, rfl, Nat.zero_le _, by simpa using HO.out, GW.out⟩
     case round =>
      clear HO GW
      obtain ⟨k, rfl, hk, ho, hg⟩ := hrel
      have HO := Lib.hid ho
      have GW := Lib.hid hg
      clear ho hg
      have hB : M.items.length ≤ 48 := by have := HF.out; omega
      have m2 := mc2 TM.out _ GW.out
      have m3 := mc3 TM.out _ GW.out
      have m5 := mc5 TM.out _ GW.out
      try dsimp only at m2 m3 m5
      by_cases hlt : k < M.items.length
      ·have hlt' : (k : Int) < (M.items.length : Int) := by omega
       obtain ⟨b, o, x, rfl, hx, hc⟩ := item_at HM.out.items rfl hlt
       obtain ⟨c0x, c1x, c2x⟩ := hc _ GW.out
       have HX := Lib.hid hx
       clear hc hx
       go_wp2_with (at_builtin; refine Hold.hold ?_)
       have B := SlL.new wr 9 encS_len [x.name] #[.string ⟨x.name.toArray⟩] 1 rfl rfl (by decide)
       clear m2 m3 m5
       generalize wr.heap.size = b8 at B ⊢
       generalize wr.alloc _ = w8 at B ⊢
       obtain ⟨g8, t8⟩ := B
       refine Hold.go ?_
       refine wpList_appendL rfl _ _ 22 9 _ 16 rfl Tryz.underlying22 str_info rfl (by decide) encS_len encS_one W.heap.size _ _ _ [x.name] rfl (HO.out.grow g8) rfl t8 (by have := HF.out; simp; omega) (by have := HF.out; simp; omega) ((GW.out.trans g8).size) ?_
       intro v' w9 ho9 k9
       have G9 := Lib.hid ((HO.out.grow g8).gr (GW.out.trans g8) k9)
       rw [← take_map HX.out] at ho9
       have H9 := Lib.hid ho9
       clear ho9 k9 g8 t8
       go_wp2_with fail
       refine ⟨⟨k + 1, by go_num, by omega, H9.out, G9.out⟩, by simp [RowKit.intOf]; omega⟩
      ·obtain rfl : k = M.items.length := by omega
       have HO := Lib.hid (by have := HO.out; rw [List.take_length] at this; exact this)
       go_wp2_with fail
       go_ret
       exact ⟨_, rfl, G.out.trans GW.out, by have := HO.out.read; unfold names; simpa using this⟩
end Go.Proofs.YtnlocdijdfclcaaGreatDoor
namespace Go.Proofs.YtnlocdijdfclcaaGreatDoor
open Go.RowKit Go.Lib Lex
set_option linter.unusedVariables false
set_option linter.unusedSimpArgs false

theorem flat_strV : ∀ l : List (List UInt8), l.flatMap encS = l.map strV
 | [] => rfl
 | x :: l => by rw [List.flatMap_cons, flat_strV l]; rfl
theorem StrL.toS {w : World} {v : Value} {l : List (List UInt8)} (h : StrL w v l) : StrS w v l := by
 have h : SlV w 1 v l.length (l.flatMap encS) := h
 rw [flat_strV] at h; exact h
theorem names_len {M : Mdl} (h : Few M) : (names M).length ≤ 120 := by
 obtain ⟨h, _⟩ := h
 unfold names
 simp only [List.length_append, List.length_map]
 omega
theorem names_short {M : Mdl} (h : Few M) : ∀ s ∈ names M, s.length ≤ 100 := by
 obtain ⟨_, h0, h1, h2, h3, h4, _⟩ := h
 intro s hs
 unfold names at hs
 simp only [List.mem_append, List.mem_map] at hs
 rcases hs with hs | hs | ⟨x, hx, rfl⟩ | ⟨x, hx, rfl⟩ | ⟨x, hx, rfl⟩
 ·exact h0 s hs
 ·exact h1 s hs
 ·exact h2 x hx
 ·exact h3 x hx
 ·exact (h4 x hx).1
set_option maxRecDepth 100000 in
set_option maxHeartbeats 800000 in
theorem ref_names (w : World) (P : Ptrs) (M : Mdl) (hm : MdlAt w P M) (hf : Few M) :
  Calls Tryz.prog 62 #[.agg (mcells P M)] w (Ret w fun r _ => Tells (NamesOK (names M)) r) := by
 have HF := Lib.hid hf
 clear hf
 have HM := Lib.hid hm
 have B := Cells.new w (mcells P M) 29
 clear hm
 have m0 := mc0 B.2 _ (Gr.refl _)
 have m1 := mc1 B.2 _ (Gr.refl _)
 have m2 := mc2 B.2 _ (Gr.refl _)
 have m3 := mc3 B.2 _ (Gr.refl _)
 have m4 := mc4 B.2 _ (Gr.refl _)
 have m5 := mc5 B.2 _ (Gr.refl _)
 have m6 := mc6 B.2 _ (Gr.refl _)
 have m7 := mc7 B.2 _ (Gr.refl _)
 have m8 := mc8 B.2 _ (Gr.refl _)
 have m9 := mc9 B.2 _ (Gr.refl _)
 have m10 := mc10 B.2 _ (Gr.refl _)
 unfold mcells at B m0 m1 m2 m3 m4 m5 m6 m7 m8 m9 m10 ⊢
 go_enter Tryz.func62, Tryz.ntmps62
 go_wp2_with fail
 clear m0 m1 m2 m3 m4 m5 m6 m7 m8 m9 m10
 generalize w.heap.size = bm at B ⊢
 generalize w.alloc _ = W at B ⊢
 obtain ⟨g0, tm⟩ := B
 have TM := Lib.hid (show Cells W bm (mcells P M) from tm)
 have G := Lib.hid g0
 have HM := Lib.hid (HM.out.grow g0)
 clear g0 tm
 have m0 := mc0 TM.out _ (Gr.refl _)
 have m1 := mc1 TM.out _ (Gr.refl _)
 have m2 := mc2 TM.out _ (Gr.refl _)
 have m3 := mc3 TM.out _ (Gr.refl _)
 have m4 := mc4 TM.out _ (Gr.refl _)
 have m5 := mc5 TM.out _ (Gr.refl _)
 have m6 := mc6 TM.out _ (Gr.refl _)
 have m7 := mc7 TM.out _ (Gr.refl _)
 have m8 := mc8 TM.out _ (Gr.refl _)
 have m9 := mc9 TM.out _ (Gr.refl _)
 have m10 := mc10 TM.out _ (Gr.refl _)
 clear m0 m1 m2 m3 m4 m5 m6 m7 m8 m9 m10
 refine (ref_Names W P M HM.out HF.out).mono ?_
 rintro _ w1 ⟨v1, rfl, g1, h1⟩
 have HS := Lib.hid (names_short HF.out)
 have hlen := names_len HF.out
 clear HM TM
 have G := Lib.hid (G.out.trans g1)
 clear g1
 generalize hnm : names M = l at h1 HS hlen
 have HN := Lib.hid hnm
 clear hnm
 obtain ⟨p, c, rfl, hc1, hc2⟩ := h1.parts
 have HL := Lib.hid h1
 clear h1
 go_wp2_with fail
 go_loopw [4] (fun i w2 => ∃ k : Nat, i = .int .i64 k ∧ k ≤ l.length ∧ (∀ i s, i < k → l[i]? = some s → isName s = true ∧ ¬ s ∈ l.take i) ∧ Gr w1 w2) (fun i _ => l.length - (RowKit.intOf i).toNat)
 case atStart => exact ⟨0, rfl, Nat.zero_le _, fun i s hi => by omega, Gr.refl _⟩
 case round =>
  obtain ⟨k, rfl, hk, hp, hg⟩ := hrel
  have HP := Lib.hid hp
  have HL := Lib.hid (HL.out.grow hg)
  have G := Lib.hid (G.out.trans hg)
  have GL := Lib.hid hg
  clear hp hg
  by_cases hlt : k < l.length
  ·have hlt' : (k : Int) < (l.length : Int) := by omega
   obtain ⟨b, o, x, rfl, hx, hc⟩ := str_at HL.out rfl hlt
   have HX := Lib.hid hx
   have hsh := HS.out x (List.mem_of_getElem? hx)
   have htk := SlL.take encS_len HL.out rfl k (by omega)
   clear hx
   go_wp2_with fail
   have g0 : Gr wr wr.drew := (Gr.refl _).drew
   have hkc : k ≤ c := by omega
   refine wp_region_fast [(0, true), (1, true), (2, true), (3, true), (4, false), (5, true), (6, true), (7, true), (8, true), (9, true), (10, true), (11, true), (12, true), (13, true), (14, false), (15, true)] (by kernel_rfl) (by kernel_rfl) rfl (by kernel_rfl) (fun _ _ d _ _ h => by cases d <;> exact h) ?_
   repeat (refine wpE_readB (v := ?_) g0 rfl rfl (fun w' hg => ?_) (fun K hK => ?_); rotate_left; (go_simp; rfl); go_simp; refine hK _ _ ?_; clear hK K)
   refine wpE_fn (args := ?_) rfl rfl rfl rfl rfl rfl (by kernel_rfl) (by kernel_rfl) ?_ (fun K hK => ?_)
   rotate_left
   ·go_simp; rfl
   refine (ref_IsName _ x (by omega)).mono ?_
   rintro _ w4 ⟨_, rfl, g4, rfl⟩
   refine ⟨_, rfl, g4, ?_⟩
   go_simp
   refine hK _ _ ?_
   clear hK K
   replace g0 := g0.trans g4
   obtain ⟨t, ht⟩ : ∃ t, isName x = t := ⟨_, rfl⟩
   rw [ht]
   have HT := Lib.hid ht
   clear ht
   cases t
   ·repeat (refine wpE_readB (v := ?_) g0 rfl rfl (fun w' hg => ?_) (fun K hK => ?_); rotate_left; (go_simp; rfl); go_simp; refine hK _ _ ?_; clear hK K)
    repeat (refine wpE_skip rfl rfl ?_; go_simp)
    repeat (refine wpE_readB (v := ?_) g0 rfl rfl (fun w' hg => ?_) (fun K hK => ?_); rotate_left; (go_simp; rfl); go_simp; refine hK _ _ ?_; clear hK K)
    refine wpE_nil ?_
    have G := Lib.hid (G.out.trans g0)
    clear hc htk
    go_wp2_with fail
    try rw [Exit.noGoto_ret]
    go_ret
    exact ⟨_, rfl, G.out, Tells.no fun h => by rw [HN.out] at h; have := (h k x HX.out).1; rw [HT.out] at this; cases this⟩
   ·repeat (refine wpE_readB (v := ?_) g0 rfl rfl (fun w' hg => ?_) (fun K hK => ?_); rotate_left; (go_simp; rfl); go_simp; refine hK _ _ ?_; clear hK K)
    refine wpE_fn (args := ?_) rfl rfl rfl rfl rfl rfl (by kernel_rfl) (by kernel_rfl) ?_ (fun K hK => ?_)
    rotate_left
    ·go_simp; rfl
    have hHas := ref_Has w4 _ (l.take k) x (StrL.toS (SlL.grow htk g0)) (by rw [List.length_take]; omega)
    obtain ⟨t, ht⟩ : ∃ t, (l.take k).contains x = t := ⟨_, rfl⟩
    rw [ht] at hHas
    have HC := Lib.hid ht
    clear ht
    refine hHas.mono ?_
    rintro _ w5 ⟨_, rfl, g5, rfl⟩
    clear hHas
    refine ⟨_, rfl, g5, ?_⟩
    go_simp
    refine hK _ _ ?_
    clear hK K
    replace g0 := g0.trans g5
    cases t
    ·repeat (refine wpE_readB (v := ?_) g0 rfl rfl (fun w' hg => ?_) (fun K hK => ?_); rotate_left; (go_simp; rfl); go_simp; refine hK _ _ ?_; clear hK K)
     refine wpE_nil ?_
     have G0 := Lib.hid g0
     clear hc htk g0 g4 g5
     go_wp2_with fail
     refine ⟨⟨k + 1, by go_num, by omega, fun i s hi hs => ?_, GL.out.trans G0.out⟩, by simp [RowKit.intOf]; omega⟩
     rcases Nat.lt_or_ge i k with h | h
     ·exact HP.out i s h hs
     ·obtain rfl : i = k := by omega
      have e : s = x := by have := hs.symm.trans HX.out; simpa using this
      subst e
      exact ⟨HT.out, fun hm => by have := HC.out; rw [List.contains_iff_mem.2 hm] at this; cases this⟩
    ·repeat (refine wpE_readB (v := ?_) g0 rfl rfl (fun w' hg => ?_) (fun K hK => ?_); rotate_left; (go_simp; rfl); go_simp; refine hK _ _ ?_; clear hK K)
     refine wpE_nil ?_
     have G := Lib.hid (G.out.trans g0)
     clear hc htk g0 g4 g5
     go_wp2_with fail
     try rw [Exit.noGoto_ret]
     go_ret
     exact ⟨_, rfl, G.out, Tells.no fun h => by rw [HN.out] at h; exact (h k x HX.out).2 (List.contains_iff_mem.1 HC.out)⟩
  ·obtain rfl : k = l.length := by omega
   go_wp2_with fail
   try rw [Exit.noGoto_ret]
   go_ret
   exact ⟨_, rfl, G.out, Tells.yes (by rw [HN.out]; exact fun i s hs => HP.out i s (List.getElem?_eq_some_iff.1 hs).1 hs)⟩
end Go.Proofs.YtnlocdijdfclcaaGreatDoor
