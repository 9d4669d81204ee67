/- strings.Builder: copyCheck and WriteString at this dump (the shelf's contracts fall here: the refused operation in copyCheck). -/
import Derived.Test.YthiaclljcnincaaGreatApRat
set_option maxHeartbeats 2000000
set_option maxRecDepth 100000
namespace Go.Proofs.YthiaclljcnincaaGreat
open Go.RowKit Num
theorem sU (b:Nat) (w:World) (h0:w.cell? ⟨b,0,none⟩=some (.pointer (some ⟨b,0,none⟩))) :
 Calls Tryz.prog 115 #[.pointer (some ⟨b,0,none⟩)] w fun e w'=>e=.returned (.tuple #[])∧w'=w:=by
 obtain⟨j,hj,_⟩:=vr.1 (show (Tryz.prog.info? 137).map (·.size)=some 2 by kernel_rfl)
 go_enter Tryz.func115,Tryz.ntmps115
 go_wp2
 rw [Lib.run_neq_ptr_same w _ (tp:=134) (te:=137) ox hj]
 go_wp2
 go_end0
 exact⟨rfl,rfl⟩
theorem rK (b:Nat) (w:World) (h0:w.cell? ⟨b,0,none⟩=some (.pointer none)) (hsh:w.shape? b=some (137,2)) (hfz:w.frozen? ⟨b,0,none⟩=false) :
 Calls Tryz.prog 115 #[.pointer (some ⟨b,0,none⟩)] w fun e w'=>e=.returned (.tuple #[])∧w'=w.setCell ⟨b,0,none⟩ (.pointer (some ⟨b,0,none⟩)):=by
 obtain⟨j,hj,hjs⟩:=vr.1 (show (Tryz.prog.info? 137).map (·.size)=some 2 by kernel_rfl)
 go_enter Tryz.func115,Tryz.ntmps115
 go_wp2
 rw [Lib.run_to_unsafe w ⟨b,0,none⟩ (src:=134) (dst:=184) ox ox hj (by rw [hjs];decide) hsh (Nat.zero_lt_succ 1)];simp only [Result.andThen];rw [jw]
 go_wp2
 rw [run_callFunc_extern Tryz.func135 ox ox ox (e:=Extern.AbiNoEscape.same) ox];rw [Lib.run_noEscape];simp only [Result.andThen];rw [jw]
 go_wp2
 rw [Lib.run_from_unsafe w ⟨b,0,none⟩ (src:=184) (dst:=134) ox ox hj hsh ox];simp only [Result.andThen];rw [jw]
 go_wp2
 go_end0
 exact⟨rfl,rfl⟩
theorem uP (B b:Nat) (bs:List Value) (w:World) (h:Lib.IsBuilder 137 5 B b bs w) :
 Calls Tryz.prog 115 #[.pointer (some ⟨b,0,none⟩)] w fun e w'=>e=.returned (.tuple #[])∧(Lib.BuilderAt 137 5 B b (.pointer (some ⟨b,0,none⟩)) bs w'∧Below B w w'):=by
 rcases h with h|h
 ·refine (rK b w h.cell0 h.shape h.frozen0).mono ?_;rintro e w' ⟨rfl,rfl⟩;exact⟨rfl,h.used _,(Below.refl B w).setCell (p:=⟨b,0,none⟩) h.1 _⟩
 ·refine (sU b w h.cell0).mono ?_;rintro e w' ⟨rfl,rfl⟩;exact⟨rfl,h,Below.refl B _⟩
theorem rJ (B b:Nat) (bs:List Value) (s:ByteArray) (w:World) (h:Lib.IsBuilder 137 5 B b bs w) (hlen:bs.length+s.size≤140737488355328) (hBw:B≤w.heap.size) :
 Calls Tryz.prog 92 #[.pointer (some ⟨b,0,none⟩),.string s] w fun e w'=>e=.returned (.tuple #[.int .i64 s.size,.nilIface])∧(Lib.BuilderAt 137 5 B b (.pointer (some ⟨b,0,none⟩)) (bs++Lib.strCells s) w'∧Below B w w'):=by
 obtain⟨i0,hi,hz0,hz1,hz2⟩:=info_parts (show (Tryz.prog.info? 5).map (fun i=>(i.zero,i.size,i.bytes))=some (some (.int .u8 0),1,1) by kernel_rfl)
 go_enter Tryz.func92,Tryz.ntmps92
 go_wp2_with (go_at_call 115;refine (uP B b bs _ h).mono ?_)
 rintro e w1 ⟨rfl,h1,hb1⟩;obtain⟨hB,v,hbk,hown,hne⟩:=h1;have c0:w1.cell? ⟨b,0,none⟩=some (.pointer (some ⟨b,0,none⟩)):=by rw [Lib.cell_of_heap hbk];rfl
 have c1:w1.cell? ⟨b,1,none⟩=some v:=by rw [Lib.cell_of_heap hbk];rfl
 go_wp2_with (at_builtin;refine Lib.wpList_append_own_string _ rfl _ _ 135 9 rfl B 5 i0 ox ox hi hz0 hz1 hz2 _ _ _ rfl hown s rfl ?c3 ?c4 ?c5 ?_)
 case c3=>unfold maxLen;omega
 case c4=>omega
 case c5=>have:=hb1.size;omega
 intro v' w2 hown' hgrow _;have hlt:b<w1.heap.size:=by
  rcases zb b w1.heap.size with h'|h'
  ·exact h'
  ·simp [Array.getElem?_eq_none h']at hbk
 have hb2:w2.heap[b]?=some (.cells #[.pointer (some ⟨b,0,none⟩),v] 137 (0,0)):=by
  rw [hgrow.block b hlt (fun e=>hne e.symm)];exact hbk
 have d0:w2.cell? ⟨b,0,none⟩=some (.pointer (some ⟨b,0,none⟩)):=by rw [Lib.cell_of_heap hb2];rfl
 have d1:w2.cell? ⟨b,1,none⟩=some v:=by rw [Lib.cell_of_heap hb2];rfl
 have f1:w2.frozen? ⟨b,1,none⟩=false:=Lib.frozen_of_heap hb2 1;obtain⟨ao,n',cap,rfl⟩:∃ao n' cap,v'=.slice ao n' cap:=by
  rcases hown'.2 with ⟨hv,_⟩|⟨g,cap,cur,hv,_⟩
  ·exact⟨_,_,_,hv⟩
  ·exact⟨_,_,_,hv⟩
 go_wp2
 go_ret2
 refine⟨rfl,?_,?_⟩
 ·exact Lib.BuilderAt.put (T:=137) (e:=5) hB hb2 (bs':=bs++Lib.strCells s) (by simpa [Lib.strCells_length] using hown') oz
 ·exact (hb1.grown hgrow (by have:=hb1.size;omega) (fun k hk=>(hown.lt k hk).1)).setCell (p:=⟨b,1,none⟩) hB _
