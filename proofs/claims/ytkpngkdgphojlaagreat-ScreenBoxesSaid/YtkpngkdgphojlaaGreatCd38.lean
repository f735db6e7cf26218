/- Texts of the proof. -/
import Derived.Test.YtkpngkdgphojlaaGreatCd23
import Derived.Test.YtkpngkdgphojlaaGreatCd24
import Derived.Test.YtkpngkdgphojlaaGreatCd35
import Derived.Test.YtkpngkdgphojlaaGreatCd37
set_option linter.all false
set_option maxHeartbeats 2000000
set_option maxRecDepth 100000
namespace Go.Proofs.YtkpngkdgphojlaaGreat
open Go.Proofs.Tryz
open Go.RowKit
theorem El.le {n:Nat} {us:List Nat} (h:El n us):us.length≤n:=by
 have hp:=List.pairwise_iff_getElem.1 h.FN
 have key: ∀i (hi:i<us.length),i≤us[i]:=by
  intro i;induction i with
  |zero=>intro _;exact Nat.zero_le _
  |succ i ih=>
   intro hi;have h1:=ih (by omega);have h2:=hp i (i+1) (by omega) hi (by omega);omega
 by_cases q:us.length=0
 ·omega
 ·have h1:=key (us.length-1) (by omega)
  have h2:=h.lt _ (List.getElem_mem (show us.length-1<us.length by omega));omega
structure VW (V:World) (T B D E G:Nat) (a:Option Addr) (c:Nat) (l:List Int) (cc:List Value) (ga:Option Addr) (gc:Nat) (rows:List (List Value)) (si:List (Option Addr×Nat×List Int)) (h:Nat) (ua:Option Addr) (uc:Nat) (us:List Nat) (W:World):Prop where
 q:QW V T B D a c l cc ga gc rows si W
 cut:aJ W E 24 [i64 0,i64 (h:Int),.slice ua us.length uc,i64 0,i64 0,i64 0]
 own:aN W G 3 1 (.slice ua us.length uc) (dH (bU us))
 lo:D≤E∧E<G∧G≤W.heap.size
 off:(∀q,ga=some q→q.block<E)∧ ∀s∈si,∀p,s.1=some p→p.block<E
theorem VW.next {V W W':World} {T B D E G:Nat} {a:Option Addr} {c:Nat} {l:List Int} {cc:List Value} {ga:Option Addr} {gc:Nat} {rows:List (List Value)} {si:List (Option Addr×Nat×List Int)} {h:Nat} {ua:Option Addr} {uc:Nat} {us:List Nat} (v:VW V T B D E G a c l cc ga gc rows si h ua uc us W) (hT:aY W' T a c l) (hx:ar T W W'):VW V T B D E G a c l cc ga gc rows si h ua uc us W':=by
 have hp:=v.q.pos;have hl:=v.lo;have hs:=hx.size
 exact ⟨v.q.next hT hx,v.cut.but hx (by omega),v.own.but hx (by omega),by omega,v.off⟩
theorem VW.grow {V W W':World} {T B D E G:Nat} {a:Option Addr} {c:Nat} {l:List Int} {cc:List Value} {ga:Option Addr} {gc:Nat} {rows:List (List Value)} {si:List (Option Addr×Nat×List Int)} {h:Nat} {ua:Option Addr} {uc:Nat} {us:List Nat} (v:VW V T B D E G a c l cc ga gc rows si h ua uc us W) (hx:Ext W W'):VW V T B D E G a c l cc ga gc rows si h ua uc us W':=v.next (v.q.tape.ext hx) (hx.but T)
theorem VW.push {V W w5:World} {T B D E G:Nat} {a:Option Addr} {c:Nat} {l:List Int} {cc:List Value} {ga:Option Addr} {gc:Nat} {rows:List (List Value)} {si:List (Option Addr×Nat×List Int)} {h u:Nat} {ua:Option Addr} {uc:Nat} {us:List Nat} {v1:Value} (v:VW V T B D E G a c l cc ga gc rows si h ua uc us W)
 (ho:w5.ownsRow G 3 1 v1 (us.length+1) ((dH (bU us)).flatten++ [i64 (u:Int)])) (he: ∀a0,Ext a0 W→a0.heap.size≤G→Ext a0 w5) (hb: ∀k,k<W.heap.size→some k≠Value.ownBlock (.slice ua us.length uc)→w5.heap[k]?=W.heap[k]?) (hz:W.heap.size≤w5.heap.size):
 ∃g2 k2,v1= .slice g2 (us++ [u]).length k2∧w5.cell? ⟨E,2,none⟩=some (.slice ua us.length uc)∧w5.frozen? ⟨E,2,none⟩=false∧VW V T B D E G a c l cc ga gc rows si h g2 k2 (us++ [u]) (w5.setCell ⟨E,2,none⟩ (.slice g2 (us++ [u]).length k2)):=by
 obtain ⟨g2,k2,rfl⟩:=je ho;have hp:=v.q.pos;have hl:=v.lo
 obtain ⟨K,NR,Kj,hKx⟩:=iB (base:=G) (v:= .slice ua us.length uc) hl.2.2 (fun k q=>(v.own.own.lt k q).1) he hb hz;have hle:(us++ [u]).length=us.length+1:=by simp
 have Ym:dH (bU (us++ [u]))=dH (bU us)++ [[i64 (u:Int)]]:=by simp [dH,bU]
 have PE:(dH (bU us)).length=us.length:=by rw [eM,cq]
 have Jo:=v.cut.but hKx (by omega);have hx:=((ar.refl E w5).gD (o:=2) (v:= .slice g2 (us.length+1) k2));have hs5:=hKx.size;have hs6:=hx.size
 have RS:aN w5 G 3 1 (.slice g2 (us.length+1) k2) (dH (bU us)++ [[i64 (u:Int)]]):=v.own.snoc (w':=w5) (r:= [i64 (u:Int)]) rfl (by rw [PE];exact ho);have Ve:=v.q.but hKx (by omega) (fun q e=>by have:=v.off.1 q e;omega) (fun s hs p e=>by have:=v.off.2 s hs p e;omega);refine ⟨g2,k2,by rw [hle],(Jo.cell 2).trans rfl,Jo.frozen 2,?_⟩;rw [hle];refine ⟨Ve.but hx (by omega) (fun q e=>by have:=v.off.1 q e;omega) (fun s hs p e=>by have:=v.off.2 s hs p e;omega),?_,?_,by omega,v.off⟩
 ·rw [hle];exact Jo.set 2 _
 ·rw [hle,Ym];exact RS.but hx hl.2.1
theorem Jp (V:World) (a b:Option Addr) (n m ca cb:Nat):
 Calls prog 7 #[.slice a n ca,.slice b m cb] V fun e w'=>e= .returned (.bool (decide (n≤200)&&decide (m≤200)))∧w'=V:=by
 go_enter func7,ntmps7
 by_cases hn:n≤200
 ·have g1:(n:Int)≤200:=by omega
  by_cases hm:m≤200
  ·have g2:(m:Int)≤200:=by omega
   have e1:(decide (n≤200)&&decide (m≤200))=true:=by simp [hn,hm]
   rw [e1];go_wp2_with fail
   go_ret;exact ⟨rfl,rfl⟩
  ·have g2:decide ((m:Int)≤200)=false:=by rw [decide_eq_false_iff_not];omega
   have e1:(decide (n≤200)&&decide (m≤200))=false:=by simp [hm]
   rw [e1];go_wp2_with fail
   go_ret;exact ⟨rfl,rfl⟩
 ·have g1:decide ((n:Int)≤200)=false:=by rw [decide_eq_false_iff_not];omega
  have e1:(decide (n≤200)&&decide (m≤200))=false:=by simp [hn]
  rw [e1];go_wp2_with fail
  go_ret;exact ⟨rfl,rfl⟩
theorem LM (V:World) (c:ai) (hc:aS V c):
 Calls prog 9 #[.agg (C8 c)] V fun e w'=> ∃t:Bool,e= .returned (.bool t)∧(t=true→c.ak.length≤5∧c.lines.length≤6∧c.au.length≤4∧c.stores.length≤4∧c.aL.length≤4∧c.outs.length≤4∧c.hours≤3)∧Ext V w':=by
 try unfold C8
 have et:=ae hc;clear hc;go_enter func9,ntmps9
 go_upto_region 1 with fail
 obtain ⟨W0,hW,x0,Z0,A0⟩:=aH V 32 c.cells;rw [show V.alloc (.cells (C8 c) 32)=W0 from hW.symm];obtain ⟨B,hB⟩: ∃B,B=V.heap.size:=⟨_,rfl⟩;rw [←hB]at A0⊢;have HX:=ae x0;have HA:=ae A0
 clear hW Z0 A0 x0 hB;obtain ⟨k0,k1,k2,k3,k4,k5,k6,k7⟩:=ai.at HA.o;clear k1;by_cases h0:5<c.ak.length
 ·have g0:(5:Int)<(c.ak.length:Int):=by omega
  go_wp2_with fail
  go_ret;exact ⟨false,rfl,(fun e=>by cases e),HX.o⟩
 ·have g0:decide ((5:Int)<(c.ak.length:Int))=false:=by rw [decide_eq_false_iff_not];omega
  by_cases h1:6<c.lines.length
  ·have g1:(6:Int)<(c.lines.length:Int):=by omega
   go_wp2_with fail
   go_ret;exact ⟨false,rfl,(fun e=>by cases e),HX.o⟩
  ·have g1:decide ((6:Int)<(c.lines.length:Int))=false:=by rw [decide_eq_false_iff_not];omega
   by_cases h2:4<c.au.length
   ·have g2:(4:Int)<(c.au.length:Int):=by omega
    go_wp2_with fail
    go_ret;exact ⟨false,rfl,(fun e=>by cases e),HX.o⟩
   ·have g2:decide ((4:Int)<(c.au.length:Int))=false:=by rw [decide_eq_false_iff_not];omega
    by_cases h3:4<c.stores.length
    ·have g3:(4:Int)<(c.stores.length:Int):=by omega
     go_wp2_with fail
     go_ret;exact ⟨false,rfl,(fun e=>by cases e),HX.o⟩
    ·have g3:decide ((4:Int)<(c.stores.length:Int))=false:=by rw [decide_eq_false_iff_not];omega
     by_cases h4:4<c.aL.length
     ·have g4:(4:Int)<(c.aL.length:Int):=by omega
      go_wp2_with fail
      go_ret;exact ⟨false,rfl,(fun e=>by cases e),HX.o⟩
     ·have g4:decide ((4:Int)<(c.aL.length:Int))=false:=by rw [decide_eq_false_iff_not];omega
      by_cases h5:4<c.outs.length
      ·have g5:(4:Int)<(c.outs.length:Int):=by omega
       go_wp2_with fail
       go_ret;exact ⟨false,rfl,(fun e=>by cases e),HX.o⟩
      ·have g5:decide ((4:Int)<(c.outs.length:Int))=false:=by rw [decide_eq_false_iff_not];omega
       by_cases h6:3<c.hours
       ·go_wp2_with fail
        go_ret;exact ⟨false,rfl,(fun e=>by cases e),HX.o⟩
       ·have HT:Hid (c.ak.length≤5∧c.lines.length≤6∧c.au.length≤4∧c.stores.length≤4∧c.aL.length≤4∧c.outs.length≤4∧c.hours≤3):=by(show _∧_∧_∧_∧_∧_∧_;omega)
        have g6:decide ((3:Int)<c.hours)=false:=by rw [decide_eq_false_iff_not];exact h6
        have HU:=ae HT.o.2.2.1;clear h0 h1 h2 h3 h4 h5 h6;go_wp2_with fail
        clear g0 g1 g2 g3 g4 g5 g6 k0 k2 k3 k4 k5 k6 k7;go_loopw [3] (fun ii wr=> ∃i:Nat,i≤c.au.length∧Ext W0 wr∧ii= .int .i64 (i:Int)) (fun ii _=>c.au.length-(intOf ii).toNat)
        case atStart=>exact ⟨0,Nat.zero_le _,Ext.refl _,rfl⟩
        case round=>
             obtain ⟨i,hi,hx,rfl⟩:=hrel;have yO:=ae hx;have k4:wr.cell? ⟨B,4,none⟩=some (.slice c.ua c.au.length c.uc):=aj hx ((HA.o.cell 4).trans rfl);clear hx;by_cases hlt:i<c.au.length
             ·have b1:(i:Int)<(c.au.length:Int):=by omega
              have b0:(0:Int)≤(i:Int):=by omega
              have hr:=(et.o.ext (HX.o.trans yO.o)).au;have hle:=hr.le;have dy:=hr.cap
              rw [List.length_map]at hle;obtain ⟨b,o,ha,hcell⟩:=hr.cell i (by rw [List.length_map];exact hlt);simp only [List.getElem_map]at hcell;have e4:wr.cell? ⟨b,o+i*22+4,none⟩=some (.slice c.au[i].sa c.au[i].aM.length c.au[i].sc):=hcell 4 (by show 4<22;decide);have e18:wr.cell? ⟨b,o+i*22+18,none⟩=some (.slice c.au[i].aa c.au[i].away.length c.au[i].ac):=hcell 18 (by show 18<22;decide);rw [ha]at k4;have q5:IntKind.i64.wrap ((i:Int)+1)=((i+1:Nat):Int):=by rw [IntKind.wrap_i64];have:=HU.o;omega
              have q6:wrap64 ((i:Int)+1)=((i+1:Nat):Int):=by unfold wrap64;have:=HU.o;omega
              have yN:=ae hlt;clear hr hcell ha hi;generalize c.au[i]=x at*;clear hlt;by_cases h1:30<x.away.length
              ·have g1:(30:Int)<(x.away.length:Int):=by omega
               go_wp2_with fail
               go_ret;exact ⟨false,rfl,(fun e=>by cases e),HX.o.trans yO.o⟩
              ·have g1:decide ((30:Int)<(x.away.length:Int))=false:=by rw [decide_eq_false_iff_not];omega
               clear h1;by_cases h2:20<x.aM.length
               ·have g2:(20:Int)<(x.aM.length:Int):=by omega
                go_wp2_with fail
                go_ret;exact ⟨false,rfl,(fun e=>by cases e),HX.o.trans yO.o⟩
               ·have g2:decide ((20:Int)<(x.aM.length:Int))=false:=by rw [decide_eq_false_iff_not];omega
                clear h2;go_wp2_with fail
                exact ⟨⟨i+1,by(have:=yN.o;omega),yO.o,by first|rfl|exact congrArg (Value.int IntKind.i64) q6⟩,by first|(show c.au.length-(((i+1:Nat):Int)).toNat<c.au.length-((i:Int)).toNat;have:=yN.o;omega)|exact Nat.lt_of_le_of_lt (Nat.le_of_eq (congrArg (fun z=>c.au.length-Int.toNat z) q6)) (by show c.au.length-(((i+1:Nat):Int)).toNat<c.au.length-((i:Int)).toNat;have:=yN.o;omega)⟩
             ·obtain rfl:i=c.au.length:=by omega
              go_wp2_with fail
              go_ret;exact ⟨true,rfl,fun _=>HT.o,HX.o.trans yO.o⟩
end Go.Proofs.YtkpngkdgphojlaaGreat
