/- Texts: NumA. -/
import Derived.Lib.AppendIntMem
import Derived.Test.YtcjgimlcefhhmaaGreatDoorC6
set_option linter.unusedVariables false
set_option linter.unusedSimpArgs false
set_option maxRecDepth 100000
set_option maxHeartbeats 12800000
namespace Go.Proofs.YtcjgimlcefhhmaaGreatDoor
open Go.RowKit Go.Sort Go.Lib
def Tab (w : World) : Prop := Lib.TabIs Tryz.prog w "internal/strconv.uint64pow10" .u64 Lib.pow10Tab
theorem Tab.grow {w w':World}(h:Tab w)(g:Gr w w'):Tab w':=tabBelow_of_tabIs h w' g
theorem holds0 (w:World)(T:TypeId)(a:Nat)(f:a≤24):Holds (fun(b:UInt8)=>Value.int .u8 (b.toNat:Int)) (w.alloc (.cells Lib.zeros24 T)) w.heap.size 0 (Array.replicate a (0:UInt8)):=fun j c=>by
 have d:j < a:=by simpa using c
 refine⟨?_,World.frozen?_alloc_new _ _ _ _⟩;rw[World.cell?_alloc_new,Lib.zeros24_at _ (by omega),getElem!_pos _ j c];simp
theorem J3v (w:World)(k:Nat)(os:Array Obj):Gr w (grow (w.drewN k) os):=by
 refine⟨rfl,rfl,rfl,?_,fun i a=>?_⟩
 ·simp[grow,World.drewN]
 ·simp[grow,World.drewN,Array.getElem?_append_left a]
theorem J44 (w:World)(u:Nat)(g:u < 18446744073709551616)(l:Tab w):
  Calls Tryz.prog 278 #[.int .u64 u,.int .i64 10] w (Ret w fun r _=>r = .string ⟨(Lib.decDigits u).toArray⟩):=by
 by_cases q:u < 100
 ·go_enter Tryz.func278,Tryz.ntmps278;go_wp2_with fail;refine(Tryz.internal_strconv_small u q _).mono ?_;rintro _ _ ⟨rfl,rfl⟩;go_wp2_with fail;go_ret;exact⟨_,rfl,Gr.refl _,rfl⟩
 ·have m:1≤u:=by omega
  have v:Lib.nDigits u≤20:=by have:=Lib.numDigits_eq u m g;split at this<;>omega
  have i:Tryz.prog.arrayLen 206=24:=by simp[Program.arrayLen,Tryz.underlying206]
  have x:∀ W,(Instr.sliceAt 206 (.pointer (some ⟨w.heap.size,0,none⟩)) none (some (.int .i64 (Lib.nDigits u:Int))) none).run Tryz.prog W = .ok (.slice (some ⟨w.heap.size,0,none⟩) (Lib.nDigits u) 24) W:=fun W=>by
   rw[run_sliceAt_array_h W 206 ⟨w.heap.size,0,none⟩ (by simp[Program.arrayLen,Program.elem,Tryz.underlying206]) .i64 (Lib.nDigits u:Int) (by omega) (by rw[i];omega)];go_simp
  have c:=holds0 w 206 (Lib.nDigits u) (by omega);have d:=Tryz.internal_strconv_formatBase10 w.heap.size 0 24 u (Array.replicate (Lib.nDigits u) 0) (w.alloc (.cells Lib.zeros24 206)) c (by rw[Array.size_replicate];exact Lib.lt_pow_nDigits u) g (by rw[Array.size_replicate];omega);rw[Array.size_replicate] at d;obtain⟨n,p,o⟩:=Z3 c (Tryz.internal_strconv_numDigits u m g (w.alloc (.cells Lib.zeros24 206)) (Lib.tabIs_alloc l _)) d;clear c i d l;go_enter Tryz.func278,Tryz.ntmps278;go_wp2_with fail;refine p.o.mono ?_;rintro _ _ ⟨rfl,rfl⟩;go_wp2_with fail;refine o.o.mono ?_;rintro _ _ ⟨rfl,k,y,dk,rfl,a⟩;have t:(convert 118 9 (.slice (some ⟨w.heap.size,0,none⟩) (Lib.nDigits u) 24)).run Tryz.prog ((putRow (fun(b:UInt8)=>Value.int .u8 (b.toNat:Int)) (w.alloc (.cells Lib.zeros24 206)) w.heap.size 0 dk).drewN k) = .ok (.string ⟨(Lib.decDigits u).toArray⟩) ((putRow (fun(b:UInt8)=>Value.int .u8 (b.toNat:Int)) (w.alloc (.cells Lib.zeros24 206)) w.heap.size 0 dk).drewN k):=by
   have h:=run_convert_bytes_back (P:=Tryz.prog) ((putRow (fun(b:UInt8)=>Value.int .u8 (b.toNat:Int)) (w.alloc (.cells Lib.zeros24 206)) w.heap.size 0 dk).drewN k) 118 9 5 ⟨w.heap.size,0,none⟩ 24 (Lib.decDigits u) Tryz.underlying118 Tryz.underlying5 Tryz.underlying9 (fun j f=>by
    rw[Lib.row_is_numeral a j f,Lib.add_plain,World.cell?_drewN];exact cell?_putRow (fun(b:UInt8)=>Value.int .u8 (b.toNat:Int)) _ w.heap.size 0 _ dk n.o (by rw[a.size,Array.size_replicate]) j (by rw[a.size];rw[Lib.decDigits_length] at f;exact f))
   rw[Lib.decDigits_length] at h;exact h
  go_wp2_with fail;go_ret;refine⟨_,rfl,?_,rfl⟩;have e:∃ os,(putRow (fun(b:UInt8)=>Value.int .u8 (b.toNat:Int)) (w.alloc (.cells Lib.zeros24 206)) w.heap.size 0 dk).drewN k=grow (w.drewN k) os:=by
   rw[alloc_eq_grow];obtain⟨s,_,e⟩:=putRow_grow_new (fun(b:UInt8)=>Value.int .u8 (b.toNat:Int)) w #[Obj.cells Lib.zeros24 206] w.heap.size 0 dk (Nat.le_refl _);exact⟨s,by rw[e];rfl⟩
  obtain⟨os,e⟩:=e;rw[e];exact J3v w k os
theorem J6f (w:World)(u:Nat)(c:u < 18446744073709551616)(a:Tab w):
  Calls Tryz.prog 236 #[.int .u64 u,.int .i64 10] w (Ret w fun r _=>r = .string ⟨(Lib.decDigits u).toArray⟩):=by
 have b:=Z a;clear a;go_enter Tryz.func236,Tryz.ntmps236;go_wp2_with fail;refine(J44 w u c b.o).mono ?_;rintro _ d ⟨_,rfl,g,rfl⟩;go_wp2_with fail;go_ret;exact⟨_,rfl,g,rfl⟩
end Go.Proofs.YtcjgimlcefhhmaaGreatDoor
