/- Several texts in one. (Printed by prep.py.) -/
import Derived.Test.YtmifbgccpdmjpaaGreatRdLSP
import Derived.Laws.Runes
import Derived.WalkMore
import Derived.Lib.IndexAny
set_option maxHeartbeats 2000000
set_option maxRecDepth 100000
namespace Go.Proofs.YtmifbgccpdmjpaaGreat
open Go.RowKit Num Plain
open Sy (Up Sees CallsG Seg)
theorem aGb {w:World}{r:Int}(h0:128≤r):Calls Tryz.prog 205 #[.string ⟨#[43,45]⟩,.int .i32 r] w fun e w'=>e=.returned (.int .i64 (-1))∧Below w.heap.size w w':=by
 have g1:¬ r<128:=oq
 have g0:(0:Int)≤r:=oq
 by_cases hr:r=65533
 ·subst hr
  go_enter Tryz.func205,Tryz.ntmps205
  go_wp2_with fail
  go_loopg [5,6] 2 (fun g _ _ wx=>∃i:Nat,i+g=2∧wx=w.iter ⟨#[43,45]⟩ i)
  case atStart=>exact⟨0,rfl,rfl⟩
  case round=>
   obtain⟨i,hg,rfl⟩:=hrel;rcases (show i=0∨i=1∨i=2 by omega) with rfl|rfl|rfl
   ·have hnx:=fun ty=>run_next_ascii (P:=Tryz.prog) w ⟨#[43,45]⟩ 0 ty oz oz
    go_wp2_with fail
    go_roundg 1
    case measure=>omega
    case rel=>exact⟨1,rfl,rfl⟩
   ·have hnx:=fun ty=>run_next_ascii (P:=Tryz.prog) w ⟨#[43,45]⟩ 1 ty oz oz
    go_wp2_with fail
    go_roundg 0
    case measure=>omega
    case rel=>exact⟨2,rfl,rfl⟩
   ·have hnx:=fun ty=>run_next_end (P:=Tryz.prog) w ⟨#[43,45]⟩ 2 ty oz
    go_wp2_with fail
    go_ret
    exact⟨rfl,(Below.refl _ _).alloc (oy _) _⟩
 ·have hr':(r == (65533:Int))=false:=beq_eq_false_iff_ne.2 hr;cases hb:Go.Lib.validRune r
  ·go_enter Tryz.func205,Tryz.ntmps205
   go_wp2_with (go_at_call 318;refine (Tryz.utf8_ValidRune r _).mono ?_;rintro e w' ⟨rfl,hw⟩;rw [hw,hb])
   go_ret
   exact⟨rfl,Below.refl _ _⟩
  ·have hv:Utf8.valid r=true:=(validRune_eq r).trans hb;obtain⟨f1,f2,f3⟩:=encode_facts r hv h0;have F3:=ou f3;clear f3 hv;obtain⟨rs,hrs⟩:∃rs,rs=Utf8.encode r:=⟨_,rfl⟩
   go_enter Tryz.func205,Tryz.ntmps205
   go_wp2_with (go_at_call 318;refine (Tryz.utf8_ValidRune r _).mono ?_;rintro e w' ⟨rfl,hw⟩;rw [hw,hb])
   go_step3
   go_wp2_with fail
   clear hrs;generalize Utf8.encode r=E at *
   go_loopg [9,10,11,12] 1 (fun g s9 s10 _ _ wx=>wx=w∧s9=.int .i64 ((E.size:Int)-1)∧s10=.int .i64 0)
   case atStart=>exact⟨rfl,rfl,rfl⟩
   case round=>
    obtain⟨rfl,rfl,rfl⟩:=hrel
    by_cases hN:E.size=2
    ·have hlt:((E.size:Int)-1)<2:=oq
     have hge:(0:Int)≤((E.size:Int)-1):=oq
     have hlt':((E.size:Int)-1)<(E.size:Int):=oq
     have ht:((E.size:Int)-1).toNat=1:=oq
     obtain⟨y,hy⟩:∃y:Nat,y=(E[1]' oq).toNat:=⟨_,rfl⟩;have hy128:128≤y:=by
      have:=F3.out oq;rw [hy];simpa only [hN] using this
     go_wp2_with fail
     go_step3
     go_wp2_with fail
     have hne:(((((⟨#[43,45]⟩:ByteArray)[1]' oz).toNat:Nat):Int) != (((E[1]' oq).toNat:Nat):Int))=true:=by
      refine bne_iff_ne.2 fun e=>?_;have e45:((⟨#[43,45]⟩:ByteArray)[1]' oz).toNat=45:=rfl;rw [e45]at e;omega
     have HNE:=ou hne;clear hne
     go_region_held3 (fun _ => True) (exact trivial) (fail "no call")
     all_goals
      rw [HNE.out];have hwr:IntKind.i64.wrap 2=2:=oz
      have hsz:(⟨#[43,45]⟩:ByteArray).size=2:=rfl;have hbd:(2:Int)≤((⟨#[43,45]⟩:ByteArray).size:Int):=by rw [hsz];decide
      go_wp2_with fail
      go_region_held3 (fun _=>True) (exact trivial) (first|(go_at_call 317;refine (Tryz.strings_IndexByte _ _ _).mono ?_;rintro e w2 ⟨rfl,hw2⟩))
      all_goals
       go_wp2_with fail
       simp only [Exit.noGoto_ret,Exit.inBlock,Exit.then]
       go_ret
       exact⟨rfl,((Below.refl _ _).drew).drew⟩
    ·have hlt:¬ ((E.size:Int)-1)<2:=oq
     go_wp2_with fail
     go_ret
     exact⟨rfl,Below.refl _ _⟩
theorem yP (s:ByteArray) (i:Nat) (h:i<s.size) (hb:128≤(s.get! i).toNat) :
 128≤(Utf8.decode s i).1∧1≤(Utf8.decode s i).2∧i+(Utf8.decode s i).2≤s.size∧∀j,j<(Utf8.decode s i).2→128≤(s.get! (i+j)).toNat:=by
 have one:∀j,j<1→128≤(s.get! (i+j)).toNat:=fun j hj=>by
  have:j=0:=oq
  subst this;exact hb
 have err:128≤((Utf8.runeError,1):Nat×Nat).1∧1≤((Utf8.runeError,1):Nat×Nat).2∧i+((Utf8.runeError,1):Nat×Nat).2≤s.size∧∀j,j<((Utf8.runeError,1):Nat×Nat).2→128≤(s.get! (i+j)).toNat:=⟨oz,oy _,h,one⟩;unfold Utf8.decode;simp only [jp];rw [og oq];split
 ·rename_i hc;simp only [qb,decide_eq_true_eq,beq_iff_eq]at hc;split
  ·rename_i hg;refine⟨hg,(show 1≤2 by decide),by show i+2≤s.size;omega,fun j hj=>?_⟩;rcases (show j=0∨j=1 by have:j<2:=hj;omega) with rfl|rfl
   ·exact hb
   ·omega
  ·exact err
 ·split
  ·rename_i hc;simp only [qb,decide_eq_true_eq,beq_iff_eq]at hc;split
   ·rename_i hg;simp only [qb,decide_eq_true_eq]at hg;refine⟨qr oz hg.1,(show 1≤3 by decide),by show i+3≤s.size;omega,fun j hj=>?_⟩;rcases (show j=0∨j=1∨j=2 by have:j<3:=hj;omega) with rfl|rfl|rfl
    ·exact hb
    ·omega
    ·omega
   ·exact err
  ·split
   ·rename_i hc;simp only [qb,decide_eq_true_eq,beq_iff_eq]at hc;split
    ·rename_i hg;simp only [qb,decide_eq_true_eq]at hg;refine⟨qr oz hg.1,(show 1≤4 by decide),by show i+4≤s.size;omega,fun j hj=>?_⟩;rcases (show j=0∨j=1∨j=2∨j=3 by have:j<4:=hj;omega) with rfl|rfl|rfl|rfl
     ·exact hb
     ·omega
     ·omega
     ·omega
    ·exact err
   ·exact err
theorem aAy {s chars:List UInt8}{i:Nat}(h:Go.Lib.NoAny s chars i):∀ {n:Nat},(∀j,j<n→∃x,s[i+j]?=some x∧chars.contains x=false)→Go.Lib.NoAny s chars (i+n):=by
 intro n
 induction n with
 | zero=>intro _;exact h
 | succ n ih=>
  intro hn;obtain⟨x,h1,h2⟩:=hn n (xm n);exact (ih fun j hj=>hn j oq).succ h1 h2
theorem zM {P:Program}{w:World}{B pos:Nat}{s:ByteArray}(h0:It w B s pos) (ty:TypeId) (h:pos<s.size) :
 (Instr.next (.pointer (some ⟨B,0,none⟩)) true ty).run P w=.ok (.tuple #[.bool true,.int .i64 pos,.int .i32 (Utf8.decode s pos).1]) (Go.Proofs.YtmifbgccpdmjpaaGreat.onward w B s (pos+(Utf8.decode s pos).2)):=by
 unfold It at h0;simp [Instr.next,getObj,setObj,Sem.run_bind,Sem.run,h0,Result.andThen,h,goInt,Go.Proofs.YtmifbgccpdmjpaaGreat.onward]
theorem nG {w0 w:World}{B p N:Nat}{s:ByteArray}(h:Below N w0 w) (hB:N≤B):Below N w0 (onward w B s p):=
 ⟨h.os,h.tape,h.output,by rw [iN];exact h.size,fun k hk=>(gL oq).trans (h.block k hk)⟩
theorem aJs (s:ByteArray) {i:Nat}(h:i<s.size):s.get! i=s[i]'h∧s.data.toList[i]?=some (s[i]'h):=by
 have hl:i<s.data.size:=h;refine⟨?_,?_⟩
 ·rw [ByteArray.get!,getElem!_pos s.data i hl];rfl
 ·rw [zk,oi hl];rfl
theorem pH (x:UInt8):[43,45].contains x=decide (x=43∨x=45):=by
 by_cases h:x=43 <;> by_cases h':x=45 <;> simp [h,h']
theorem wV {w:World}{s:ByteArray}(h8:s.size≤8):Calls Tryz.prog 101 #[.string s,.string ⟨#[43,45]⟩] w fun e w'=>e=.returned (.int .i64 (Go.Lib.indexAny s.data.toList [43,45]))∧Below w.heap.size w w':=by
 have h8z:decide ((8:Int)<(s.size:Int))=false:=decide_eq_false oq;have hemp:(⟨#[43,45]⟩:ByteArray).toList.isEmpty=false:=by rw [eA];rfl
 go_enter Tryz.func101,Tryz.ntmps101
 go_wp2_with (go_at_call 206;refine (Tryz.strings_shouldUseASCIISet _ _).mono ?_;rintro e w' ⟨rfl,hw⟩;rw [hw,h8z])
 have hI:=World.iter_heap w s 0;have hB0:Below w.heap.size w (w.iter s 0):=(Below.refl _ _).alloc (oy _) _;have hI0:It (w.iter s 0) w.heap.size s 0:=hI;clear hI;generalize w.iter s 0=wi at *
 generalize hBn:w.heap.size=B at *
 go_loopg [9,10] s.size (fun g _ _ wx=>∃i:Nat,i+g=s.size∧It wx B s i∧Below B w wx∧Go.Lib.NoAny s.data.toList [43,45] i)
 case atStart=>exact⟨0,qe _,hI0,hB0,Go.Lib.NoAny.zero _ _⟩
 case round=>
  obtain⟨i,hig,hi,hb,hno⟩:=hrel
  by_cases hlt:i<s.size
  ·obtain⟨e1,e2⟩:=aJs s hlt;obtain⟨x,hxe⟩:∃x,x=s[i]'hlt:=⟨_,rfl⟩;rw [←hxe]at e1 e2
   by_cases hx:x.toNat<128
   ·have hcon:=Go.Lib.contains_iff_indexByte [43,45] x;have hback:((x.toNat:Int)).toNat.toUInt8=x:=by simp
    have hi5:It (onward wr B s (i+1)) B s (i+1):=It.onward hi;have hb5:Below B w (onward wr B s (i+1)):=nG hb (oy _);have HN:=ou hno;have HE:=ou e2;have HX:=ou hxe;clear hno e1 e2
    go_wp2_with fail
    rw [aEk hi _ hlt (by rw [←HX.out];exact hx),←HX.out];clear hxe hi hb;generalize onward wr B s (i+1)=w5 at *
    cases hin:[43,45].contains x
    ·rw [hin]at hcon;have hlt2:¬ ((0:Int)≤Go.Lib.indexByte [43,45] x):=ov hcon.symm;clear hcon
     go_wp2_with (go_at_call 205;refine (Tryz.strings_IndexRune_ascii _ _ _ oq oq).mono ?_;rintro e w' ⟨rfl,hw⟩;rw [hw,hback])
     go_roundg (s.size-(i+1))
     case measure=>omega
     case rel=>exact⟨i+1,oq,hi5,hb5,HN.out.succ HE.out hin⟩
    ·rw [hin]at hcon;have hge2:(0:Int)≤Go.Lib.indexByte [43,45] x:=ow hcon.symm;clear hcon
     go_wp2_with (go_at_call 205;refine (Tryz.strings_IndexRune_ascii _ _ _ oq oq).mono ?_;rintro e w' ⟨rfl,hw⟩;rw [hw,hback])
     go_ret
     exact⟨by rw [Go.Lib.indexAny_hit HN.out HE.out hin];rfl,by rw [hBn];exact hb5⟩
   ·obtain⟨d1,d2,d3,d4⟩:=yP s i hlt (by rw [e1];omega);have hno2:Go.Lib.NoAny s.data.toList [43,45] (i+(Utf8.decode s i).2):=aAy hno fun j hj=>by
     have hjl:i+j<s.size:=oq
     obtain⟨q1,q2⟩:=aJs s hjl;have:=d4 j hj;rw [q1]at this;refine⟨_,q2,?_⟩;rw [pH];refine decide_eq_false fun g=>?_;rcases g with g|g <;> (rw [g]at this;exact absurd this oz)
    have hi5:It (onward wr B s (i+(Utf8.decode s i).2)) B s (i+(Utf8.decode s i).2):=It.onward hi;have hb5:Below B w (onward wr B s (i+(Utf8.decode s i).2)):=nG hb (oy _);have HN:=ou hno2;clear hno hno2 e1 e2 d4 hxe
    go_wp2_with fail
    rw [zM hi _ hlt];clear hi hb;generalize Utf8.decode s i=dn at *
    generalize onward wr B s (i+dn.2)=w5 at *
    have hr5:(128:Int)≤(dn.1:Int):=oq
    go_wp2_with (go_at_call 205;refine (aGb hr5).mono ?_;rintro e w6 ⟨rfl,hb6⟩)
    go_roundg (s.size-(i+dn.2))
    case measure=>omega
    case rel=>exact⟨i+dn.2,oq,hi5.below hb6,hb5.trans (hb6.mono (by have:=hb5.size;have:=hi5.lt;omega)),HN.out⟩
  ·have ei:i=s.size:=oq
   subst ei;have hlen:s.data.toList.length=s.size:=zr
   go_wp2_with fail
   rw [zN hi _ hlt]
   go_wp2_with fail
   go_ret
   exact⟨by rw [Go.Lib.indexAny_none (by rw [hlen];exact hno)];rfl,by rw [hBn];exact hb⟩
theorem aUs (t:List UInt8):Go.Lib.indexAny t [43,45]=ixS t:=by
 have hno:Go.Lib.NoAny t [43,45] (cP t).length:=fun j b hj hb=>by
  have hl:=zD t;have:=aMm (p:=fun c=>!gH c) (l:=t) (j:=j) (yc hj) oq;rw [show decide (j<(t.takeWhile fun c=>!gH c).length)=true from decide_eq_true hj,qh,hb]at this;rw [pH,←xN];simpa using this
 unfold ixS;have hh:=congrArg List.length (eC t);rw [oh]at hh
 by_cases h:gI t=[]
 ·rw [om h];rw [h,ob]at hh;exact Go.Lib.indexAny_none (by rw [←hh];exact hno)
 ·rw [og h];have hp:=zd.2 h;have hlt:(cP t).length<t.length:=oq
  have:=aMm (p:=fun c=>!gH c) (l:=t) (j:=(cP t).length) (oy _) hlt;rw [show decide ((cP t).length<(t.takeWhile fun c=>!gH c).length)=false from decide_eq_false (Nat.lt_irrefl _)]at this;refine Go.Lib.indexAny_hit hno (oo hlt) ?_;rw [pH,←xN];rw [qh,oo hlt]at this;simpa using this
theorem aVd:aQz:=by
 intro k R t ht C;refine after (fun _ _=>aMr (v:=.int .i64 (ixS t)) fun w _=>?_) fun k' _ u e=>e▸C k' u;rw [←aUs]
 by_cases h8:t.length≤8
 ·have:=wV (w:=w) (s:=str t) (by rw [aA];exact h8);exact this
 ·have hv:∀w,(zeroValue 373).run Tryz.prog w=.ok (.agg (Array.replicate 256 (.bool false))) w:=(zero_of_info (n:=256) ox).1;have hac:∀(j:Nat) b,(str [43,45]).data.toList[j]?=some b→b.toNat<128:=fun j b hb=>by
   have hm:b∈[(43:UInt8),45]:=vq hb;simp only [vw,List.not_mem_nil,or_false]at hm;rcases hm with rfl|rfl <;> decide
  refine (Tryz.strings_IndexAny_long hv (str t) (str [43,45]) w oz (by rw [aA];omega) (by rw [aA];omega) oz hac).mono fun e w' ⟨h1,h2⟩=>⟨h1,?_⟩;rw [h2];exact ((Below.refl _ _).alloc (oy _) _).alloc (by simp) _
