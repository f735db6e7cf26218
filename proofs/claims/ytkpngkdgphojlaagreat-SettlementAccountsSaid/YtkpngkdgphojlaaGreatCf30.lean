/- Texts of the proof. -/
import Derived.Test.YtkpngkdgphojlaaGreatCf26
import Derived.Test.YtkpngkdgphojlaaGreatCf29
set_option linter.all false
set_option maxHeartbeats 4000000
set_option maxRecDepth 100000
namespace Go.Proofs.YtkpngkdgphojlaaGreat
open Go.Proofs.Tryz
open Go.RowKit
theorem aQ.ty {w:World} {b:Nat} {T T':TypeId} {vs vs':List Value} (h:aQ w b T vs) (g:aQ w b T' vs'):T=T':=by
 have h2:=(show w.heap[b]?=_ from h).symm.trans g;simp only [Option.some.injEq,Obj.cells.injEq]at h2;exact h2.2.1
theorem iU.ne {w:World} {a:Option Addr} {T T':TypeId} {g:Nat} {cur:List Value} (h:iU w a T) (hA:aQ w g T' cur) (hT:T≠T'):bT (fun b=>b≠g) a:=fun q hq=>by
 obtain ⟨g2,aef,rfl,hB⟩:=h q hq;intro e;have e2:g2=g:=e;subst e2;exact hT (hB.ty hA)
theorem bH.setRow {w:World} {m g c:Nat} {T:TypeId} {cur:List Value} {rows:List (List Value)} (h:bH w m (some ⟨g,0,none⟩) c rows) (hA:aQ w g T cur) (hl: ∀r∈rows,r.length=m) (i j:Nat) (hi:i<rows.length) (hj:j<m) (v:Value):
 bH (w.setCell ⟨g,i*m+j,none⟩ v) m (some ⟨g,0,none⟩) c (rows.set i (rows[i].set j v)):=by
 refine ⟨by rw [List.length_set];exact h.le,h.cap,fun k hk=>⟨g,0,rfl,fun l hl2=> ?_⟩⟩;rw [List.length_set]at hk;have hA':=hA.set (i*m+j) v
 have hold: ∀k (hk:k<rows.length) l (hl2:l<rows[k].length),cur[k*m+l]?=some rows[k][l]:=fun k hk l hl2=>by
  obtain ⟨b,o,e,hc⟩:=h.cell k hk;cases e
  have h2:=hc l hl2;rw [Nat.zero_add,hA.cell]at h2;exact h2
 rw [Nat.zero_add,hA'.cell,List.getElem?_set];by_cases e:i=k
 ·subst e
  simp only [List.getElem_set_self,List.length_set]at hl2⊢;by_cases e2:j=l
  ·subst e2
   have h3:=(List.getElem?_eq_some_iff.1 (hold i hi j hl2)).1;rw [if_pos rfl,if_pos h3,List.getElem_set_self]
  ·rw [if_neg (by omega),List.getElem_set_ne e2]
   exact hold i hi l hl2
 ·have h1:(rows.set i (rows[i].set j v))[k]'(by rw [List.length_set];exact hk)=rows[k]:=List.getElem_set_ne e _
  have hlk:l<m:=by rw [h1,hl _ (List.getElem_mem hk)]at hl2;exact hl2
  have hne:i*m+j≠k*m+l:=fun e2=>e (by
   have h5:(i*m+j)/m=i:=by rw [Nat.mul_comm,Nat.mul_add_div (by omega),Nat.div_eq_of_lt hj,Nat.add_zero]
   have h6:(k*m+l)/m=k:=by rw [Nat.mul_comm,Nat.mul_add_div (by omega),Nat.div_eq_of_lt hlk,Nat.add_zero]
   rw [e2]at h5;omega)
  rw [if_neg hne,hold k hk l (by rw [h1]at hl2;exact hl2)];congr 1
  exact (List.getElem_of_eq h1.symm _)
theorem nz.mono {P Q:Nat→Prop} {c:ai} (h:nz P c) (hp: ∀b,P b→Q b):nz Q c:=
 ⟨fun p e=>hp _ (h.aA p e),fun b hb p e=>hp _ (h.cS b hb p e),fun l hl p e=>hp _ (h.line l hl p e),fun u hu=>⟨fun p e=>hp _ ((h.unit u hu).1 p e),fun p e=>hp _ ((h.unit u hu).2 p e)⟩,
   fun t ht=>⟨fun p e=>hp _ ((h.tie t ht).1 p e),fun p e=>hp _ ((h.tie t ht).2.1 p e),fun p e=>hp _ ((h.tie t ht).2.2 p e)⟩,fun o ho=>⟨fun p e=>hp _ ((h.o o ho).1 p e),fun p e=>hp _ ((h.o o ho).2 p e)⟩⟩
structure CS (V w:World) (N:List Nat) (c:ai):Prop where
 ci:a_ w c
 sp:eh w c
 bl:bZ (fun b=>V.heap.size≤b∧b<w.heap.size∧b∉N) c
 ext:Ext V w
theorem CS.grow {V w w':World} {N:List Nat} {c:ai} (h:CS V w N c) (x:Ext w w'):CS V w' N c:=
 ⟨h.ci.ext x,h.sp.ext x,h.bl.mono fun b hb=>⟨hb.1,Nat.lt_of_lt_of_le hb.2.1 x.size,hb.2.2⟩,h.ext.trans x⟩
theorem CS.but {V w w':World} {N:List Nat} {c:ai} {K:Nat} (h:CS V w N c) (x:ar K w w') (hK:K∈N) (hV:V.heap.size≤K):CS V w' N c:=
 ⟨h.ci.but x (h.bl.mono fun b hb e=>hb.2.2 (e▸hK)),h.sp.but x fun q hq e=>(h.bl.outer q hq).2.2 (e▸hK),h.bl.mono fun b hb=>⟨hb.1,Nat.lt_of_lt_of_le hb.2.1 x.size,hb.2.2⟩,x.ext h.ext hV⟩
theorem CS.more {V w:World} {N:List Nat} {c:ai} (h:CS V w N c) {K:Nat} (hK:bZ (fun b=>b≠K) c):CS V w (K::N) c:=
 ⟨h.ci,h.sp,⟨fun p e=>⟨(h.bl.aA p e).1,(h.bl.aA p e).2.1,fun m=>(List.mem_cons.1 m).elim (hK.aA p e) (h.bl.aA p e).2.2⟩,fun p e=>⟨(h.bl.aj p e).1,(h.bl.aj p e).2.1,fun m=>(List.mem_cons.1 m).elim (hK.aj p e) (h.bl.aj p e).2.2⟩,fun b hb p e=>⟨(h.bl.cS b hb p e).1,(h.bl.cS b hb p e).2.1,fun m=>(List.mem_cons.1 m).elim (hK.cS b hb p e) (h.bl.cS b hb p e).2.2⟩,fun p e=>⟨(h.bl.lines p e).1,(h.bl.lines p e).2.1,fun m=>(List.mem_cons.1 m).elim (hK.lines p e) (h.bl.lines p e).2.2⟩,fun b hb p e=>⟨(h.bl.line b hb p e).1,(h.bl.line b hb p e).2.1,fun m=>(List.mem_cons.1 m).elim (hK.line b hb p e) (h.bl.line b hb p e).2.2⟩,fun p e=>⟨(h.bl.aq p e).1,(h.bl.aq p e).2.1,fun m=>(List.mem_cons.1 m).elim (hK.aq p e) (h.bl.aq p e).2.2⟩,fun b hb=>⟨fun p e=>⟨((h.bl.unit b hb).1 p e).1,((h.bl.unit b hb).1 p e).2.1,fun m=>(List.mem_cons.1 m).elim ((hK.unit b hb).1 p e) ((h.bl.unit b hb).1 p e).2.2⟩,fun p e=>⟨((h.bl.unit b hb).2 p e).1,((h.bl.unit b hb).2 p e).2.1,fun m=>(List.mem_cons.1 m).elim ((hK.unit b hb).2 p e) ((h.bl.unit b hb).2 p e).2.2⟩⟩,fun p e=>⟨(h.bl.stores p e).1,(h.bl.stores p e).2.1,fun m=>(List.mem_cons.1 m).elim (hK.stores p e) (h.bl.stores p e).2.2⟩,fun p e=>⟨(h.bl.aB p e).1,(h.bl.aB p e).2.1,fun m=>(List.mem_cons.1 m).elim (hK.aB p e) (h.bl.aB p e).2.2⟩,fun b hb=>⟨fun p e=>⟨((h.bl.tie b hb).1 p e).1,((h.bl.tie b hb).1 p e).2.1,fun m=>(List.mem_cons.1 m).elim ((hK.tie b hb).1 p e) ((h.bl.tie b hb).1 p e).2.2⟩,fun p e=>⟨((h.bl.tie b hb).2.1 p e).1,((h.bl.tie b hb).2.1 p e).2.1,fun m=>(List.mem_cons.1 m).elim ((hK.tie b hb).2.1 p e) ((h.bl.tie b hb).2.1 p e).2.2⟩,fun p e=>⟨((h.bl.tie b hb).2.2 p e).1,((h.bl.tie b hb).2.2 p e).2.1,fun m=>(List.mem_cons.1 m).elim ((hK.tie b hb).2.2 p e) ((h.bl.tie b hb).2.2 p e).2.2⟩⟩,fun p e=>⟨(h.bl.outs p e).1,(h.bl.outs p e).2.1,fun m=>(List.mem_cons.1 m).elim (hK.outs p e) (h.bl.outs p e).2.2⟩,fun b hb=>⟨fun p e=>⟨((h.bl.o b hb).1 p e).1,((h.bl.o b hb).1 p e).2.1,fun m=>(List.mem_cons.1 m).elim ((hK.o b hb).1 p e) ((h.bl.o b hb).1 p e).2.2⟩,fun p e=>⟨((h.bl.o b hb).2 p e).1,((h.bl.o b hb).2 p e).2.1,fun m=>(List.mem_cons.1 m).elim ((hK.o b hb).2 p e) ((h.bl.o b hb).2 p e).2.2⟩⟩⟩,h.ext⟩
theorem CS.zO {V w:World} {N:List Nat} {c:ai} (h:CS V w N c) (i j:Nat) (hi:i<c.aj.length) (hj:j<3) (v:Value) (x:cN) (hc:x.cells=c.aj[i].cells.set j v) (hs:x.name.size≤maxLen∧aI w x.da x.dc x.cf∧bB x.lF) (zP:bT (fun b=>V.heap.size≤b∧b<w.heap.size∧b∉N) x.da) (uL:bT (bA c) x.da):
 ∃g,c.ba=some ⟨g,0,none⟩∧V.heap.size≤g∧g<w.heap.size∧g∉N∧w.frozen? ⟨g,i*3+j,none⟩=false∧ar g w (w.setCell ⟨g,i*3+j,none⟩ v)∧CS V (w.setCell ⟨g,i*3+j,none⟩ v) N {c with aj:=c.aj.set i x}:=by
 have hi':i<(c.aj.map cN.cells).length:=by rw [List.length_map];exact hi
 obtain ⟨b,o,lr,-⟩:=h.ci.aj.cell i hi';obtain ⟨g,cur,e,hA⟩:=h.sp.ba _ lr;rw [e]at lr;clear e;have hR:=h.ci.aj;rw [lr]at hR;have hO:eZ c ⟨g,0,none⟩:= .inl lr;have hb:=h.bl.outer _ hO;have hx:=(ar.refl g w).eL (o:=i*3+j) (v:=v);have hz:=hx.size;have I:=h.sp.off.mono (fun b (q:bA c b)=>show b≠g from q _ hO);have B1:=h.sp.la.ne hA (by decide);have B2:=h.sp.ua.ne hA (by decide);have B3:=h.sp.sa.ne hA (by decide);have B4:=h.sp.ta.ne hA (by decide);have B5:=h.sp.oa.ne hA (by decide);have C0:a_ w {c with ba:=none,bc:=0,aj:= []}:={h.ci with aj:=bH.nil' _ _,cS:=fun _ q=>(by cases q)};have N0:bZ (fun b=>b≠g) {c with ba:=none,bc:=0,aj:= []}:=⟨I.aA,fun _ q=>(by cases q),fun _ q=>(by cases q),B1,I.line,B2,I.unit,B3,B4,I.tie,B5,I.o⟩;have C1:=C0.but hx N0;have hrow:(c.aj.set i x).map cN.cells=(c.aj.map cN.cells).set i (((c.aj.map cN.cells)[i]'hi').set j v):=by rw [List.map_set,hc,List.getElem_map]
 have R1:bH (w.setCell ⟨g,i*3+j,none⟩ v) 3 c.ba c.bc ((c.aj.set i x).map cN.cells):=by
  rw [hrow,lr];exact hR.setRow hA (fun r hr=>by obtain ⟨y,-,rfl⟩:=List.mem_map.1 hr;rfl) i j hi' hj v
 have BK:=hA.set (i*3+j) v
 have F1: ∀y∈c.aj.set i x,y.name.size≤maxLen∧aI (w.setCell ⟨g,i*3+j,none⟩ v) y.da y.dc y.cf∧bB y.lF:=fun y hy=>by
  rcases List.mem_or_eq_of_mem_set hy with q0|rfl
  ·have q:=h.ci.cS y q0
   exact ⟨q.1,q.2.1.dC hx (fun p e=>I.cS y q0 p e),q.2.2⟩
  ·have q:=hs
   exact ⟨q.1,q.2.1.dC hx (fun p e=>uL p e _ hO),q.2.2⟩
 have O1: ∀y∈c.aj.set i x,bT (bA c) y.da:=fun y hy=>by
  rcases List.mem_or_eq_of_mem_set hy with q0|rfl
  ·exact h.sp.off.cS y q0
  ·exact uL
 have P1: ∀y∈c.aj.set i x,bT (fun b=>V.heap.size≤b∧b<(w.setCell ⟨g,i*3+j,none⟩ v).heap.size∧b∉N) y.da:=fun y hy=>by
  rcases List.mem_or_eq_of_mem_set hy with q0|rfl
  ·exact fun p e=>by have q:=(h.bl.cS y q0) p e;exact ⟨q.1,Nat.lt_of_lt_of_le q.2.1 hz,q.2.2⟩
  ·exact fun p e=>by have q:=zP p e;exact ⟨q.1,Nat.lt_of_lt_of_le q.2.1 hz,q.2.2⟩
 refine ⟨g,lr,hb.1,hb.2.1,hb.2.2,hA.frozen _,hx,?_⟩;have BL:=h.bl.mono (fun b (q:V.heap.size≤b∧b<w.heap.size∧b∉N)=>show V.heap.size≤b∧b<(w.setCell ⟨g,i*3+j,none⟩ v).heap.size∧b∉N from⟨q.1,Nat.lt_of_lt_of_le q.2.1 hz,q.2.2⟩);exact ⟨{C1 with aj:=R1,cS:=F1},⟨(fun q hq=>⟨g,_,by have e2:=hq.symm.trans lr;exact Option.some.inj e2,BK⟩),h.sp.la.but hx B1,h.sp.ua.but hx B2,h.sp.sa.but hx B3,h.sp.ta.but hx B4,h.sp.oa.but hx B5,{h.sp.off with cS:=O1}⟩,{BL with cS:=P1},hx.ext h.ext hb.1⟩
theorem CS.vM {V w:World} {N:List Nat} {c:ai} (h:CS V w N c) (i j:Nat) (hi:i<c.lines.length) (hj:j<12) (v:Value) (x:aS) (hc:x.cells=c.lines[i].cells.set j v) (hs:x.name.size≤maxLen∧aI w x.aa x.ac x.away∧eI [x.cR,x.kq,x.rn,x.rd,x.qD,x.uf,x.sk,x.wI,x.cY,x.jH]) (zP:bT (fun b=>V.heap.size≤b∧b<w.heap.size∧b∉N) x.aa) (uL:bT (bA c) x.aa):
 ∃g,c.la=some ⟨g,0,none⟩∧V.heap.size≤g∧g<w.heap.size∧g∉N∧w.frozen? ⟨g,i*12+j,none⟩=false∧ar g w (w.setCell ⟨g,i*12+j,none⟩ v)∧CS V (w.setCell ⟨g,i*12+j,none⟩ v) N {c with lines:=c.lines.set i x}:=by
 have hi':i<(c.lines.map aS.cells).length:=by rw [List.length_map];exact hi
 obtain ⟨b,o,lr,-⟩:=h.ci.lines.cell i hi';obtain ⟨g,cur,e,hA⟩:=h.sp.la _ lr;rw [e]at lr;clear e;have hR:=h.ci.lines;rw [lr]at hR;have hO:eZ c ⟨g,0,none⟩:= .inr (.inl lr);have hb:=h.bl.outer _ hO;have hx:=(ar.refl g w).eL (o:=i*12+j) (v:=v);have hz:=hx.size;have I:=h.sp.off.mono (fun b (q:bA c b)=>show b≠g from q _ hO);have B0:=h.sp.ba.ne hA (by decide);have B2:=h.sp.ua.ne hA (by decide);have B3:=h.sp.sa.ne hA (by decide);have B4:=h.sp.ta.ne hA (by decide);have B5:=h.sp.oa.ne hA (by decide);have C0:a_ w {c with la:=none,lc:=0,lines:= []}:={h.ci with lines:=bH.nil' _ _,line:=fun _ q=>(by cases q)};have N0:bZ (fun b=>b≠g) {c with la:=none,lc:=0,lines:= []}:=⟨I.aA,B0,I.cS,fun _ q=>(by cases q),fun _ q=>(by cases q),B2,I.unit,B3,B4,I.tie,B5,I.o⟩;have C1:=C0.but hx N0;have hrow:(c.lines.set i x).map aS.cells=(c.lines.map aS.cells).set i (((c.lines.map aS.cells)[i]'hi').set j v):=by rw [List.map_set,hc,List.getElem_map]
 have R1:bH (w.setCell ⟨g,i*12+j,none⟩ v) 12 c.la c.lc ((c.lines.set i x).map aS.cells):=by
  rw [hrow,lr];exact hR.setRow hA (fun r hr=>by obtain ⟨y,-,rfl⟩:=List.mem_map.1 hr;rfl) i j hi' hj v
 have BK:=hA.set (i*12+j) v
 have F1: ∀y∈c.lines.set i x,y.name.size≤maxLen∧aI (w.setCell ⟨g,i*12+j,none⟩ v) y.aa y.ac y.away∧eI [y.cR,y.kq,y.rn,y.rd,y.qD,y.uf,y.sk,y.wI,y.cY,y.jH]:=fun y hy=>by
  rcases List.mem_or_eq_of_mem_set hy with q0|rfl
  ·have q:=h.ci.line y q0
   exact ⟨q.1,q.2.1.dC hx (fun p e=>I.line y q0 p e),q.2.2⟩
  ·have q:=hs
   exact ⟨q.1,q.2.1.dC hx (fun p e=>uL p e _ hO),q.2.2⟩
 have O1: ∀y∈c.lines.set i x,bT (bA c) y.aa:=fun y hy=>by
  rcases List.mem_or_eq_of_mem_set hy with q0|rfl
  ·exact h.sp.off.line y q0
  ·exact uL
 have P1: ∀y∈c.lines.set i x,bT (fun b=>V.heap.size≤b∧b<(w.setCell ⟨g,i*12+j,none⟩ v).heap.size∧b∉N) y.aa:=fun y hy=>by
  rcases List.mem_or_eq_of_mem_set hy with q0|rfl
  ·exact fun p e=>by have q:=(h.bl.line y q0) p e;exact ⟨q.1,Nat.lt_of_lt_of_le q.2.1 hz,q.2.2⟩
  ·exact fun p e=>by have q:=zP p e;exact ⟨q.1,Nat.lt_of_lt_of_le q.2.1 hz,q.2.2⟩
 refine ⟨g,lr,hb.1,hb.2.1,hb.2.2,hA.frozen _,hx,?_⟩;have BL:=h.bl.mono (fun b (q:V.heap.size≤b∧b<w.heap.size∧b∉N)=>show V.heap.size≤b∧b<(w.setCell ⟨g,i*12+j,none⟩ v).heap.size∧b∉N from⟨q.1,Nat.lt_of_lt_of_le q.2.1 hz,q.2.2⟩);exact ⟨{C1 with lines:=R1,line:=F1},⟨h.sp.ba.but hx B0,(fun q hq=>⟨g,_,by have e2:=hq.symm.trans lr;exact Option.some.inj e2,BK⟩),h.sp.ua.but hx B2,h.sp.sa.but hx B3,h.sp.ta.but hx B4,h.sp.oa.but hx B5,{h.sp.off with line:=O1}⟩,{BL with line:=P1},hx.ext h.ext hb.1⟩
theorem CS.rq {V w:World} {N:List Nat} {c:ai} (h:CS V w N c) (i j:Nat) (hi:i<c.aq.length) (hj:j<22) (v:Value) (x:aK) (hc:x.cells=c.aq[i].cells.set j v) (hs:x.name.size≤maxLen∧aI w x.aa x.ac x.away∧bH w 2 x.sa x.sc (x.aU.map dH.cells)∧(∀s∈x.aU,eI [s.width,s.aV])∧eI [x.cS,x.min,x.max,x.fu,x.fw,x.dv,x.cL,x.dx,x.fz,x.dy,x.startTime,x.dS,x.dz,x.dA,x.aA,x.bK,x.state,x.hours,x.output]) (zP:bT (fun b=>V.heap.size≤b∧b<w.heap.size∧b∉N) x.sa) (uL:bT (bA c) x.sa) (JD:bT (fun b=>V.heap.size≤b∧b<w.heap.size∧b∉N) x.aa) (Fj:bT (bA c) x.aa):
 ∃g,c.ua=some ⟨g,0,none⟩∧V.heap.size≤g∧g<w.heap.size∧g∉N∧w.frozen? ⟨g,i*22+j,none⟩=false∧ar g w (w.setCell ⟨g,i*22+j,none⟩ v)∧CS V (w.setCell ⟨g,i*22+j,none⟩ v) N {c with aq:=c.aq.set i x}:=by
 have hi':i<(c.aq.map aK.cells).length:=by rw [List.length_map];exact hi
 obtain ⟨b,o,lr,-⟩:=h.ci.aq.cell i hi';obtain ⟨g,cur,e,hA⟩:=h.sp.ua _ lr;rw [e]at lr;clear e;have hR:=h.ci.aq;rw [lr]at hR;have hO:eZ c ⟨g,0,none⟩:= .inr (.inr (.inl lr));have hb:=h.bl.outer _ hO;have hx:=(ar.refl g w).eL (o:=i*22+j) (v:=v);have hz:=hx.size;have I:=h.sp.off.mono (fun b (q:bA c b)=>show b≠g from q _ hO);have B0:=h.sp.ba.ne hA (by decide);have B1:=h.sp.la.ne hA (by decide);have B3:=h.sp.sa.ne hA (by decide);have B4:=h.sp.ta.ne hA (by decide);have B5:=h.sp.oa.ne hA (by decide);have C0:a_ w {c with ua:=none,uc:=0,aq:= []}:={h.ci with aq:=bH.nil' _ _,unit:=fun _ q=>(by cases q)};have N0:bZ (fun b=>b≠g) {c with ua:=none,uc:=0,aq:= []}:=⟨I.aA,B0,I.cS,B1,I.line,fun _ q=>(by cases q),fun _ q=>(by cases q),B3,B4,I.tie,B5,I.o⟩;have C1:=C0.but hx N0;have hrow:(c.aq.set i x).map aK.cells=(c.aq.map aK.cells).set i (((c.aq.map aK.cells)[i]'hi').set j v):=by rw [List.map_set,hc,List.getElem_map]
 have R1:bH (w.setCell ⟨g,i*22+j,none⟩ v) 22 c.ua c.uc ((c.aq.set i x).map aK.cells):=by
  rw [hrow,lr];exact hR.setRow hA (fun r hr=>by obtain ⟨y,-,rfl⟩:=List.mem_map.1 hr;rfl) i j hi' hj v
 have BK:=hA.set (i*22+j) v
 have F1: ∀y∈c.aq.set i x,y.name.size≤maxLen∧aI (w.setCell ⟨g,i*22+j,none⟩ v) y.aa y.ac y.away∧bH (w.setCell ⟨g,i*22+j,none⟩ v) 2 y.sa y.sc (y.aU.map dH.cells)∧(∀s∈y.aU,eI [s.width,s.aV])∧eI [y.cS,y.min,y.max,y.fu,y.fw,y.dv,y.cL,y.dx,y.fz,y.dy,y.startTime,y.dS,y.dz,y.dA,y.aA,y.bK,y.state,y.hours,y.output]:=fun y hy=>by
  rcases List.mem_or_eq_of_mem_set hy with q0|rfl
  ·have q:=h.ci.unit y q0
   exact ⟨q.1,q.2.1.dC hx (fun p e=>(I.unit y q0).2 p e),q.2.2.1.but hx (fun p e=>(I.unit y q0).1 p e),q.2.2.2⟩
  ·have q:=hs
   exact ⟨q.1,q.2.1.dC hx (fun p e=>Fj p e _ hO),q.2.2.1.but hx (fun p e=>uL p e _ hO),q.2.2.2⟩
 have O1: ∀y∈c.aq.set i x,bT (bA c) y.sa∧bT (bA c) y.aa:=fun y hy=>by
  rcases List.mem_or_eq_of_mem_set hy with q0|rfl
  ·exact h.sp.off.unit y q0
  ·exact ⟨uL,Fj⟩
 have P1: ∀y∈c.aq.set i x,bT (fun b=>V.heap.size≤b∧b<(w.setCell ⟨g,i*22+j,none⟩ v).heap.size∧b∉N) y.sa∧bT (fun b=>V.heap.size≤b∧b<(w.setCell ⟨g,i*22+j,none⟩ v).heap.size∧b∉N) y.aa:=fun y hy=>by
  rcases List.mem_or_eq_of_mem_set hy with q0|rfl
  ·exact ⟨fun p e=>by have q:=(h.bl.unit y q0).1 p e;exact ⟨q.1,Nat.lt_of_lt_of_le q.2.1 hz,q.2.2⟩,fun p e=>by have q:=(h.bl.unit y q0).2 p e;exact ⟨q.1,Nat.lt_of_lt_of_le q.2.1 hz,q.2.2⟩⟩
  ·exact ⟨fun p e=>by have q:=zP p e;exact ⟨q.1,Nat.lt_of_lt_of_le q.2.1 hz,q.2.2⟩,fun p e=>by have q:=JD p e;exact ⟨q.1,Nat.lt_of_lt_of_le q.2.1 hz,q.2.2⟩⟩
 refine ⟨g,lr,hb.1,hb.2.1,hb.2.2,hA.frozen _,hx,?_⟩;have BL:=h.bl.mono (fun b (q:V.heap.size≤b∧b<w.heap.size∧b∉N)=>show V.heap.size≤b∧b<(w.setCell ⟨g,i*22+j,none⟩ v).heap.size∧b∉N from⟨q.1,Nat.lt_of_lt_of_le q.2.1 hz,q.2.2⟩);exact ⟨{C1 with aq:=R1,unit:=F1},⟨h.sp.ba.but hx B0,h.sp.la.but hx B1,(fun q hq=>⟨g,_,by have e2:=hq.symm.trans lr;exact Option.some.inj e2,BK⟩),h.sp.sa.but hx B3,h.sp.ta.but hx B4,h.sp.oa.but hx B5,{h.sp.off with unit:=O1}⟩,{BL with unit:=P1},hx.ext h.ext hb.1⟩
theorem CS.tv {V w:World} {N:List Nat} {c:ai} (h:CS V w N c) (i j:Nat) (hi:i<c.stores.length) (hj:j<9) (v:Value) (x:bG) (hc:x.cells=c.stores[i].cells.set j v) (hs:x.name.size≤maxLen∧eI [x.cS,x.capacity,x.initial,x.final,x.fS,x.discharge,x.en,x.ed]):
 ∃g,c.sa=some ⟨g,0,none⟩∧V.heap.size≤g∧g<w.heap.size∧g∉N∧w.frozen? ⟨g,i*9+j,none⟩=false∧ar g w (w.setCell ⟨g,i*9+j,none⟩ v)∧CS V (w.setCell ⟨g,i*9+j,none⟩ v) N {c with stores:=c.stores.set i x}:=by
 have hi':i<(c.stores.map bG.cells).length:=by rw [List.length_map];exact hi
 obtain ⟨b,o,lr,-⟩:=h.ci.stores.cell i hi';obtain ⟨g,cur,e,hA⟩:=h.sp.sa _ lr;rw [e]at lr;clear e;have hR:=h.ci.stores;rw [lr]at hR;have hO:eZ c ⟨g,0,none⟩:= .inr (.inr (.inr (.inl lr)));have hb:=h.bl.outer _ hO;have hx:=(ar.refl g w).eL (o:=i*9+j) (v:=v);have hz:=hx.size;have I:=h.sp.off.mono (fun b (q:bA c b)=>show b≠g from q _ hO);have B0:=h.sp.ba.ne hA (by decide);have B1:=h.sp.la.ne hA (by decide);have B2:=h.sp.ua.ne hA (by decide);have B4:=h.sp.ta.ne hA (by decide);have B5:=h.sp.oa.ne hA (by decide);have C0:a_ w {c with sa:=none,sc:=0,stores:= []}:={h.ci with stores:=bH.nil' _ _,store:=fun _ q=>(by cases q)};have N0:bZ (fun b=>b≠g) {c with sa:=none,sc:=0,stores:= []}:=⟨I.aA,B0,I.cS,B1,I.line,B2,I.unit,fun _ q=>(by cases q),B4,I.tie,B5,I.o⟩;have C1:=C0.but hx N0;have hrow:(c.stores.set i x).map bG.cells=(c.stores.map bG.cells).set i (((c.stores.map bG.cells)[i]'hi').set j v):=by rw [List.map_set,hc,List.getElem_map]
 have R1:bH (w.setCell ⟨g,i*9+j,none⟩ v) 9 c.sa c.sc ((c.stores.set i x).map bG.cells):=by
  rw [hrow,lr];exact hR.setRow hA (fun r hr=>by obtain ⟨y,-,rfl⟩:=List.mem_map.1 hr;rfl) i j hi' hj v
 have BK:=hA.set (i*9+j) v
 have F1: ∀y∈c.stores.set i x,y.name.size≤maxLen∧eI [y.cS,y.capacity,y.initial,y.final,y.fS,y.discharge,y.en,y.ed]:=fun y hy=>by
  rcases List.mem_or_eq_of_mem_set hy with q0|rfl
  ·have q:=h.ci.store y q0
   exact q
  ·have q:=hs
   exact q
 refine ⟨g,lr,hb.1,hb.2.1,hb.2.2,hA.frozen _,hx,?_⟩;have BL:=h.bl.mono (fun b (q:V.heap.size≤b∧b<w.heap.size∧b∉N)=>show V.heap.size≤b∧b<(w.setCell ⟨g,i*9+j,none⟩ v).heap.size∧b∉N from⟨q.1,Nat.lt_of_lt_of_le q.2.1 hz,q.2.2⟩);exact ⟨{C1 with stores:=R1,store:=F1},⟨h.sp.ba.but hx B0,h.sp.la.but hx B1,h.sp.ua.but hx B2,(fun q hq=>⟨g,_,by have e2:=hq.symm.trans lr;exact Option.some.inj e2,BK⟩),h.sp.ta.but hx B4,h.sp.oa.but hx B5,{h.sp.off with}⟩,{BL with},hx.ext h.ext hb.1⟩
theorem CS.o_ {V w:World} {N:List Nat} {c:ai} (h:CS V w N c) (i j:Nat) (hi:i<c.aB.length) (hj:j<5) (v:Value) (x:dX) (hc:x.cells=c.aB[i].cells.set j v) (hs:x.name.size≤maxLen∧aI w x.ia x.ic x.imp∧aI w x.ea x.ec x.exp∧aI w x.pa x.pc x.aV∧bB x.cS) (zP:bT (fun b=>V.heap.size≤b∧b<w.heap.size∧b∉N) x.ia) (uL:bT (bA c) x.ia) (JD:bT (fun b=>V.heap.size≤b∧b<w.heap.size∧b∉N) x.ea) (Fj:bT (bA c) x.ea) (lH:bT (fun b=>V.heap.size≤b∧b<w.heap.size∧b∉N) x.pa) (mM:bT (bA c) x.pa):
 ∃g,c.ta=some ⟨g,0,none⟩∧V.heap.size≤g∧g<w.heap.size∧g∉N∧w.frozen? ⟨g,i*5+j,none⟩=false∧ar g w (w.setCell ⟨g,i*5+j,none⟩ v)∧CS V (w.setCell ⟨g,i*5+j,none⟩ v) N {c with aB:=c.aB.set i x}:=by
 have hi':i<(c.aB.map dX.cells).length:=by rw [List.length_map];exact hi
 obtain ⟨b,o,lr,-⟩:=h.ci.aB.cell i hi';obtain ⟨g,cur,e,hA⟩:=h.sp.ta _ lr;rw [e]at lr;clear e;have hR:=h.ci.aB;rw [lr]at hR;have hO:eZ c ⟨g,0,none⟩:= .inr (.inr (.inr (.inr (.inl lr))));have hb:=h.bl.outer _ hO;have hx:=(ar.refl g w).eL (o:=i*5+j) (v:=v);have hz:=hx.size;have I:=h.sp.off.mono (fun b (q:bA c b)=>show b≠g from q _ hO);have B0:=h.sp.ba.ne hA (by decide);have B1:=h.sp.la.ne hA (by decide);have B2:=h.sp.ua.ne hA (by decide);have B3:=h.sp.sa.ne hA (by decide);have B5:=h.sp.oa.ne hA (by decide);have C0:a_ w {c with ta:=none,tc:=0,aB:= []}:={h.ci with aB:=bH.nil' _ _,tie:=fun _ q=>(by cases q)};have N0:bZ (fun b=>b≠g) {c with ta:=none,tc:=0,aB:= []}:=⟨I.aA,B0,I.cS,B1,I.line,B2,I.unit,B3,fun _ q=>(by cases q),fun _ q=>(by cases q),B5,I.o⟩;have C1:=C0.but hx N0;have hrow:(c.aB.set i x).map dX.cells=(c.aB.map dX.cells).set i (((c.aB.map dX.cells)[i]'hi').set j v):=by rw [List.map_set,hc,List.getElem_map]
 have R1:bH (w.setCell ⟨g,i*5+j,none⟩ v) 5 c.ta c.tc ((c.aB.set i x).map dX.cells):=by
  rw [hrow,lr];exact hR.setRow hA (fun r hr=>by obtain ⟨y,-,rfl⟩:=List.mem_map.1 hr;rfl) i j hi' hj v
 have BK:=hA.set (i*5+j) v
 have F1: ∀y∈c.aB.set i x,y.name.size≤maxLen∧aI (w.setCell ⟨g,i*5+j,none⟩ v) y.ia y.ic y.imp∧aI (w.setCell ⟨g,i*5+j,none⟩ v) y.ea y.ec y.exp∧aI (w.setCell ⟨g,i*5+j,none⟩ v) y.pa y.pc y.aV∧bB y.cS:=fun y hy=>by
  rcases List.mem_or_eq_of_mem_set hy with q0|rfl
  ·have q:=h.ci.tie y q0
   exact ⟨q.1,q.2.1.dC hx (fun p e=>(I.tie y q0).1 p e),q.2.2.1.dC hx (fun p e=>(I.tie y q0).2.1 p e),q.2.2.2.1.dC hx (fun p e=>(I.tie y q0).2.2 p e),q.2.2.2.2⟩
  ·have q:=hs
   exact ⟨q.1,q.2.1.dC hx (fun p e=>uL p e _ hO),q.2.2.1.dC hx (fun p e=>Fj p e _ hO),q.2.2.2.1.dC hx (fun p e=>mM p e _ hO),q.2.2.2.2⟩
 have O1: ∀y∈c.aB.set i x,bT (bA c) y.ia∧bT (bA c) y.ea∧bT (bA c) y.pa:=fun y hy=>by
  rcases List.mem_or_eq_of_mem_set hy with q0|rfl
  ·exact h.sp.off.tie y q0
  ·exact ⟨uL,Fj,mM⟩
 have P1: ∀y∈c.aB.set i x,bT (fun b=>V.heap.size≤b∧b<(w.setCell ⟨g,i*5+j,none⟩ v).heap.size∧b∉N) y.ia∧bT (fun b=>V.heap.size≤b∧b<(w.setCell ⟨g,i*5+j,none⟩ v).heap.size∧b∉N) y.ea∧bT (fun b=>V.heap.size≤b∧b<(w.setCell ⟨g,i*5+j,none⟩ v).heap.size∧b∉N) y.pa:=fun y hy=>by
  rcases List.mem_or_eq_of_mem_set hy with q0|rfl
  ·exact ⟨fun p e=>by have q:=(h.bl.tie y q0).1 p e;exact ⟨q.1,Nat.lt_of_lt_of_le q.2.1 hz,q.2.2⟩,fun p e=>by have q:=(h.bl.tie y q0).2.1 p e;exact ⟨q.1,Nat.lt_of_lt_of_le q.2.1 hz,q.2.2⟩,fun p e=>by have q:=(h.bl.tie y q0).2.2 p e;exact ⟨q.1,Nat.lt_of_lt_of_le q.2.1 hz,q.2.2⟩⟩
  ·exact ⟨fun p e=>by have q:=zP p e;exact ⟨q.1,Nat.lt_of_lt_of_le q.2.1 hz,q.2.2⟩,fun p e=>by have q:=JD p e;exact ⟨q.1,Nat.lt_of_lt_of_le q.2.1 hz,q.2.2⟩,fun p e=>by have q:=lH p e;exact ⟨q.1,Nat.lt_of_lt_of_le q.2.1 hz,q.2.2⟩⟩
 refine ⟨g,lr,hb.1,hb.2.1,hb.2.2,hA.frozen _,hx,?_⟩;have BL:=h.bl.mono (fun b (q:V.heap.size≤b∧b<w.heap.size∧b∉N)=>show V.heap.size≤b∧b<(w.setCell ⟨g,i*5+j,none⟩ v).heap.size∧b∉N from⟨q.1,Nat.lt_of_lt_of_le q.2.1 hz,q.2.2⟩);exact ⟨{C1 with aB:=R1,tie:=F1},⟨h.sp.ba.but hx B0,h.sp.la.but hx B1,h.sp.ua.but hx B2,h.sp.sa.but hx B3,(fun q hq=>⟨g,_,by have e2:=hq.symm.trans lr;exact Option.some.inj e2,BK⟩),h.sp.oa.but hx B5,{h.sp.off with tie:=O1}⟩,{BL with tie:=P1},hx.ext h.ext hb.1⟩
theorem CS.zQ {V w:World} {N:List Nat} {c:ai} (h:CS V w N c) (i j:Nat) (hi:i<c.outs.length) (hj:j<4) (v:Value) (x:aY) (hc:x.cells=c.outs[i].cells.set j v) (hs:x.name.size≤maxLen∧aI w x.la x.lc x.lines∧bH w 3 x.ma x.mc (x.moves.map bL.cells)∧ ∀m∈x.moves,eI [m.unit,m.up,m.down]) (zP:bT (fun b=>V.heap.size≤b∧b<w.heap.size∧b∉N) x.la) (uL:bT (bA c) x.la) (JD:bT (fun b=>V.heap.size≤b∧b<w.heap.size∧b∉N) x.ma) (Fj:bT (bA c) x.ma):
 ∃g,c.oa=some ⟨g,0,none⟩∧V.heap.size≤g∧g<w.heap.size∧g∉N∧w.frozen? ⟨g,i*4+j,none⟩=false∧ar g w (w.setCell ⟨g,i*4+j,none⟩ v)∧CS V (w.setCell ⟨g,i*4+j,none⟩ v) N {c with outs:=c.outs.set i x}:=by
 have hi':i<(c.outs.map aY.cells).length:=by rw [List.length_map];exact hi
 obtain ⟨b,o,lr,-⟩:=h.ci.outs.cell i hi';obtain ⟨g,cur,e,hA⟩:=h.sp.oa _ lr;rw [e]at lr;clear e;have hR:=h.ci.outs;rw [lr]at hR;have hO:eZ c ⟨g,0,none⟩:= .inr (.inr (.inr (.inr (.inr lr))));have hb:=h.bl.outer _ hO;have hx:=(ar.refl g w).eL (o:=i*4+j) (v:=v);have hz:=hx.size;have I:=h.sp.off.mono (fun b (q:bA c b)=>show b≠g from q _ hO);have B0:=h.sp.ba.ne hA (by decide);have B1:=h.sp.la.ne hA (by decide);have B2:=h.sp.ua.ne hA (by decide);have B3:=h.sp.sa.ne hA (by decide);have B4:=h.sp.ta.ne hA (by decide);have C0:a_ w {c with oa:=none,oc:=0,outs:= []}:={h.ci with outs:=bH.nil' _ _,o:=fun _ q=>(by cases q)};have N0:bZ (fun b=>b≠g) {c with oa:=none,oc:=0,outs:= []}:=⟨I.aA,B0,I.cS,B1,I.line,B2,I.unit,B3,B4,I.tie,fun _ q=>(by cases q),fun _ q=>(by cases q)⟩;have C1:=C0.but hx N0;have hrow:(c.outs.set i x).map aY.cells=(c.outs.map aY.cells).set i (((c.outs.map aY.cells)[i]'hi').set j v):=by rw [List.map_set,hc,List.getElem_map]
 have R1:bH (w.setCell ⟨g,i*4+j,none⟩ v) 4 c.oa c.oc ((c.outs.set i x).map aY.cells):=by
  rw [hrow,lr];exact hR.setRow hA (fun r hr=>by obtain ⟨y,-,rfl⟩:=List.mem_map.1 hr;rfl) i j hi' hj v
 have BK:=hA.set (i*4+j) v
 have F1: ∀y∈c.outs.set i x,y.name.size≤maxLen∧aI (w.setCell ⟨g,i*4+j,none⟩ v) y.la y.lc y.lines∧bH (w.setCell ⟨g,i*4+j,none⟩ v) 3 y.ma y.mc (y.moves.map bL.cells)∧ ∀m∈y.moves,eI [m.unit,m.up,m.down]:=fun y hy=>by
  rcases List.mem_or_eq_of_mem_set hy with q0|rfl
  ·have q:=h.ci.o y q0
   exact ⟨q.1,q.2.1.dC hx (fun p e=>(I.o y q0).1 p e),q.2.2.1.but hx (fun p e=>(I.o y q0).2 p e),q.2.2.2⟩
  ·have q:=hs
   exact ⟨q.1,q.2.1.dC hx (fun p e=>uL p e _ hO),q.2.2.1.but hx (fun p e=>Fj p e _ hO),q.2.2.2⟩
 have O1: ∀y∈c.outs.set i x,bT (bA c) y.la∧bT (bA c) y.ma:=fun y hy=>by
  rcases List.mem_or_eq_of_mem_set hy with q0|rfl
  ·exact h.sp.off.o y q0
  ·exact ⟨uL,Fj⟩
 have P1: ∀y∈c.outs.set i x,bT (fun b=>V.heap.size≤b∧b<(w.setCell ⟨g,i*4+j,none⟩ v).heap.size∧b∉N) y.la∧bT (fun b=>V.heap.size≤b∧b<(w.setCell ⟨g,i*4+j,none⟩ v).heap.size∧b∉N) y.ma:=fun y hy=>by
  rcases List.mem_or_eq_of_mem_set hy with q0|rfl
  ·exact ⟨fun p e=>by have q:=(h.bl.o y q0).1 p e;exact ⟨q.1,Nat.lt_of_lt_of_le q.2.1 hz,q.2.2⟩,fun p e=>by have q:=(h.bl.o y q0).2 p e;exact ⟨q.1,Nat.lt_of_lt_of_le q.2.1 hz,q.2.2⟩⟩
  ·exact ⟨fun p e=>by have q:=zP p e;exact ⟨q.1,Nat.lt_of_lt_of_le q.2.1 hz,q.2.2⟩,fun p e=>by have q:=JD p e;exact ⟨q.1,Nat.lt_of_lt_of_le q.2.1 hz,q.2.2⟩⟩
 refine ⟨g,lr,hb.1,hb.2.1,hb.2.2,hA.frozen _,hx,?_⟩;have BL:=h.bl.mono (fun b (q:V.heap.size≤b∧b<w.heap.size∧b∉N)=>show V.heap.size≤b∧b<(w.setCell ⟨g,i*4+j,none⟩ v).heap.size∧b∉N from⟨q.1,Nat.lt_of_lt_of_le q.2.1 hz,q.2.2⟩);exact ⟨{C1 with outs:=R1,o:=F1},⟨h.sp.ba.but hx B0,h.sp.la.but hx B1,h.sp.ua.but hx B2,h.sp.sa.but hx B3,h.sp.ta.but hx B4,(fun q hq=>⟨g,_,by have e2:=hq.symm.trans lr;exact Option.some.inj e2,BK⟩),{h.sp.off with o:=O1}⟩,{BL with o:=P1},hx.ext h.ext hb.1⟩
theorem js {w:World} {D m n gc:Nat} {e:TypeId} {ga:Option Addr} {rows:List (List Value)} (h:aJ w D e m (.slice ga n gc) rows): ∀q,ga=some q→D≤q.block∧q.block<w.heap.size:=fun q hq=>
 h.own.lt q.block (by rw [hq];rfl)
theorem BQ {w:World} {D n gc:Nat} {ga:Option Addr} {l:List Int} (h:aJ w D 3 1 (.slice ga n gc) (fK l)) (hl: ∀z∈l,bB z):n=l.length∧aI w ga gc l:=by
 obtain ⟨a,c,e,hr,-⟩:=h.recs (by decide);rw [bM]at e;simp only [Value.slice.injEq]at e;obtain ⟨rfl,h2,rfl⟩:=e;exact ⟨h2,aI.ov hr hl⟩
theorem BR (V:World) (a:Option Addr) (cap:Nat) (l:List Int) (h:Int) (hl:aI V a cap l) (hn:l.length≤100000) (hh:bB h):
 Calls prog 94 #[.slice a l.length cap,i64 h] V fun e w'=> ∃a' c' l',e= .returned (.slice a' l'.length c')∧aI w' a' c' l'∧(∀p,a'=some p→V.heap.size≤p.block∧p.block<w'.heap.size)∧l'.length≤l.length∧Ext V w':=by
 have HL:=ae hl;have HN:=ae hn;have hle:=hl.le;have dQ:=hl.cap
 clear hl hn;go_enter func94,ntmps94
 go_wp2_with fail
 go_loopw [5,6] (fun v kv wr=> ∃(k:Nat) (ga:Option Addr) (gc:Nat) (o:List Int),k≤l.length∧o.length≤k∧(∀z∈o,bB z)∧v= .slice ga o.length gc∧aJ wr V.heap.size 3 1 (.slice ga o.length gc) (fK o)∧Ext V wr∧kv= .int .i64 (k:Int)) (fun _ kv _=>l.length-(intOf kv).toNat)
 case atStart=>exact ⟨0,none,0,[],Nat.zero_le _,Nat.le_refl _,(fun z hz=>by cases hz),rfl,aJ.nil _ _ _ _,Ext.refl _,rfl⟩
 case round=>
  obtain ⟨k,ga,gc,o,hk,ho1,wN,rfl,hown,hx,rfl⟩:=hrel;have HO:=ae hown;have HX:=ae hx;have HI:=ae wN
  clear hown hx wN;by_cases hlt:k<l.length
  ·have b0:(0:Int)≤(k:Int):=by omega
   have b1:(k:Int)<(l.length:Int):=by omega
   have q1:IntKind.i64.wrap ((k:Int)+1)=((k+1:Nat):Int):=by rw [IntKind.wrap_i64];have:=HN.o;omega
   obtain ⟨b,oo,ha,hc⟩:=(HL.o.ext HX.o).cell k hlt;have hz:=HL.o.NV k hlt;obtain ⟨z,hze⟩: ∃z,z=l[k]:=⟨_,rfl⟩;rw [←hze]at hc hz;have HZ:Hid (bB z):=hz;have HAD:Hid (a=some ⟨b,oo,none⟩):=ha;rw [ha];clear hze ha hz;by_cases hzh:z<h
   ·go_wp2_with (at_builtin
                 refine iw _ _ 22 3 (.int .i64 0) 1 8 rfl rfl underlying22 Tryz.info_int rfl (by decide) (by decide) (ga:=ga) (gc:=gc) (rows:=fK o) (by rw [bM];rfl) (by rw [bM];exact HO.o.ext ((Ext.refl _).alloc _)) (r:= [i64 z]) rfl (aQ.alloc _ _ _) rfl (by intro u hu;rw [List.mem_singleton]at hu;subst hu;rfl) (by rw [bM];have:=HN.o;omega) (by have:=HX.o.size;rw [World.size_alloc];omega) ?_;intro g2 k2 W2 K mM hK x2;rw [bM,←kJ]at mM;rw [bM];have o6:=ae mM;have ez:=ae (x2.ext (HX.o.trans ((Ext.refl _).alloc _)) hK.o.1);clear mM hK x2)
    have hz2:(o++ [z]).length=o.length+1:=by simp
    exact ⟨⟨k+1,g2,k2,o++ [z],by omega,by omega,fun y hy=>by
     rcases List.mem_append.1 hy with e|e
     ·exact HI.o y e
     ·rw [List.mem_singleton]at e;rw [e];exact HZ.o,by rw [hz2],by rw [hz2];exact o6.o,ez.o,by go_num⟩,by simp only [intOf];omega⟩
   ·go_wp2_with fail
    exact ⟨⟨k+1,ga,gc,o,by omega,by omega,HI.o,rfl,HO.o,HX.o,by go_num⟩,by simp only [intOf];omega⟩
  ·obtain rfl:k=l.length:=by omega
   go_wp2_with fail
   go_ret;exact ⟨ga,gc,o,rfl,(BQ HO.o HI.o).2,js HO.o,ho1,HX.o⟩
section
open Go
variable{P:Program} {ops:Array Oper} {Q:Exit→Act→World→Prop} {S:World→Prop} {z n:Nat} {ls oX:Array Bool} {a a':Act} {w:World}
theorem zI (d:Nat) {i:Nat} {v:Value} {o:Oper} (hS:S w) (h:P9 P ops Q S z n oX a' w) (hd:ops.size-(n+1)+d=i:=by simp only [List.size_toArray,List.length_cons,List.length_nil,Nat.reduceAdd,Nat.reduceSub];rfl) (hi:ops[i]?=some o:=by rfl) (hy: ∀w,S w→(execOp a.eval o).run P w= .ok (.value v) w:=by intro w e;go_simp;try rfl)
 (hl:ls.setIfInBounds i true=oX:=by simp only [sS];rfl) (ha:a.put o.dst v=a':=by simp only [sS,Act.put];rfl)
 (h1:Region.noSelect ops=true:=by kernel_rfl) (h2:Region.free .any ops ls i=true:=by kernel_rfl)
 (h3:(Region.ready .any ops ls).contains i=true:=by kernel_rfl) (h4:(i==z)=false:=by kernel_rfl) (h7:uY .any ops (fun j=>j==z) i=true:=by kernel_rfl) (h8:og (fun j=>j==z) ls=false:=by kernel_rfl)
 (h5: ∀c a w,Q (.panic c) (a.put o.dst v) w→Q (.panic c) a w:=by exact fun _ _ _ h=>h) (h6:Region.wanted o (yielded ops a.tmps)=true:=by rfl):P9 P ops Q S z (n+1) ls a w:=by
 subst hl ha;exact mV hi h1 h2 h3 h4 h7 h8 h5 (Or.inl ⟨h6,fun w e=>hy w e.2⟩) trivial hS h
theorem zJ (d:Nat) {i:Nat} {v:Value} {o:Oper} (hS:S w) (h:P9 P ops Q S z n oX a' w) (hd:ops.size-(n+1)+d=i:=by simp only [List.size_toArray,List.length_cons,List.length_nil,Nat.reduceAdd,Nat.reduceSub];rfl) (hi:ops[i]?=some o:=by rfl) (hy: ∀w,(execOp a.eval o).run P w= .ok (.value v) w:=by intro w;go_simp;try rfl)
 (hl:ls.setIfInBounds i true=oX:=by simp only [sS];rfl) (ha:a.put o.dst v=a':=by simp only [sS,Act.put];rfl)
 (h1:Region.noSelect ops=true:=by kernel_rfl) (h2:Region.free .any ops ls i=true:=by kernel_rfl)
 (h3:(Region.ready .any ops ls).contains i=true:=by kernel_rfl) (h4:(i==z)=false:=by kernel_rfl)
 (h5: ∀c a w,Q (.panic c) (a.put o.dst v) w→Q (.panic c) a w:=by exact fun _ _ _ h=>h) (h6:Region.wanted o (yielded ops a.tmps)=true:=by rfl):P9 P ops Q S z (n+1) ls a w:=by
 subst hl ha;exact eV hi h1 h2 h3 h4 h5 (Or.inl ⟨h6,fun w _=>hy w⟩) trivial (Or.inl hS) h
end
theorem aI.take {w:World} {a:Option Addr} {c:Nat} {xs:List Int} (h:aI w a c xs) (n:Nat):aI w a c (xs.take n):=by
 refine ⟨Nat.le_trans (by rw [List.length_take];omega) h.le,h.cap,fun i hi=> ?_,fun i hi=> ?_⟩
 ·rw [List.length_take]at hi
  obtain ⟨b,o,e,q⟩:=h.cell i (by omega);exact ⟨b,o,e,by rw [List.getElem_take];exact q⟩
 ·rw [List.length_take]at hi
  rw [List.getElem_take];exact h.NV i (by omega)
structure vN (c:ai):Prop where
 hours:0≤c.hours∧c.hours≤100
 res:c.hours≤c.aA.length
 cS: ∀b∈c.aj,c.hours≤b.cf.length∧b.cf.length≤100
 tie: ∀t∈c.aB,(c.hours≤t.imp.length∧t.imp.length≤100)∧(c.hours≤t.exp.length∧t.exp.length≤100)∧(c.hours≤t.aV.length∧t.aV.length≤100)
 small:c.aA.length≤100∧c.aj.length≤100∧c.lines.length≤100∧c.aq.length≤100∧c.stores.length≤100∧c.aB.length≤100∧c.outs.length≤100
 line: ∀l∈c.lines,l.away.length≤100
 unit: ∀u∈c.aq,u.away.length≤100
 o: ∀o∈c.outs,o.lines.length≤100∧o.moves.length≤100
def uq (w:World) (c:ai) (w':World) (d:ai):Prop:=(∀b,b<w.heap.size→bA c b→w'.heap[b]?=w.heap[b]?)∧(∀q,eZ d q→eZ c q∨w.heap.size≤q.block)∧w.heap.size≤w'.heap.size
theorem uq.refl (w:World) (c:ai):uq w c w c:=⟨fun _ _ _=>rfl,fun _ h=> .inl h,Nat.le_refl _⟩
theorem uq.but {w w1 w2:World} {c d:ai} {K:Nat} (h:uq w c w1 d) (x:ar K w1 w2) (hK: ∀b,b<w.heap.size→bA c b→b≠K):uq w c w2 d:=
 ⟨fun b h1 h2=>(x.block b (Nat.lt_of_lt_of_le h1 h.2.2) (hK b h1 h2)).trans (h.1 b h1 h2),h.2.1,Nat.le_trans h.2.2 x.size⟩
theorem uq.grow {w w1 w2:World} {c d:ai} (h:uq w c w1 d) (x:Ext w1 w2):uq w c w2 d:=h.but (x.but w1.heap.size) fun b h1 _=>by have:=h.2.2;omega
theorem uq.ne {w w1:World} {c d:ai} {b g:Nat} (h:uq w c w1 d) (hb:b<w.heap.size) (ho:bA c b) (hg:eZ d ⟨g,0,none⟩):b≠g:=by
 rcases h.2.1 _ hg with q|q
 ·exact ho _ q
 ·have:w.heap.size≤g:=q
  omega
theorem uq.trans {w w1 w2:World} {c d e:ai} (h:uq w c w1 d) (g:uq w1 d w2 e):uq w c w2 e:=by
 refine ⟨fun b h1 h2=> ?_,fun q hq=> ?_,Nat.le_trans h.2.2 g.2.2⟩
 ·refine (g.1 b (Nat.lt_of_lt_of_le h1 h.2.2) fun q hq=> ?_).trans (h.1 b h1 h2)
  rcases h.2.1 q hq with e|e
  ·exact h2 q e
  ·omega
 ·rcases g.2.1 q hq with e|e
  ·exact h.2.1 q e
  ·exact .inr (Nat.le_trans h.2.2 e)
theorem uq.arr {w w':World} {c d:ai} {b:Nat} {T:TypeId} {vs:List Value} (h:uq w c w' d) (hA:aQ w b T vs) (ho:bA c b):aQ w' b T vs:=by
 unfold aQ;rw [h.1 b hA.lt ho];exact hA
structure iW (V w0:World) (c0:ai) (N:List Nat) (w:World) (B R:Nat) (c:ai):Prop where
 cs:CS V w (B::R::N) c
 box:aQ w B 32 c.cells
 res:aQ w R 32 lS.cells
 iK:vN c
 pos:V.heap.size≤B∧V.heap.size≤R∧B≠R
 far:uq w0 c0 w c
 kb:w0.heap.size≤B∧w0.heap.size≤R
 nb: ∀b∈N,b<w0.heap.size
def lT (c d:ai):Prop:=d.aj.length=c.aj.length∧d.lines.length=c.lines.length∧d.aq.length=c.aq.length∧d.stores.length=c.stores.length∧d.aB.length=c.aB.length∧d.outs.length=c.outs.length
theorem lT.refl (c:ai):lT c c:=⟨rfl,rfl,rfl,rfl,rfl,rfl⟩
theorem iW.grow {V w0 w w':World} {c0:ai} {N:List Nat} {B R:Nat} {c:ai} (h:iW V w0 c0 N w B R c) (x:Ext w w'):iW V w0 c0 N w' B R c:=⟨h.cs.grow x,h.box.ext x,h.res.ext x,h.iK,h.pos,h.far.grow x,h.kb,h.nb⟩
theorem iW.hours {V w0 w:World} {c0:ai} {N:List Nat} {B R:Nat} {c:ai} (h:iW V w0 c0 N w B R c) (k:Nat) (hk:(k:Int)≤c.hours):iW V w0 c0 N (w.setCell ⟨B,0,none⟩ (i64 (k:Int))) B R {c with hours:=(k:Int)}:=by
 have hx:=(ar.refl B w).eL (o:=0) (v:=i64 (k:Int));have q:=h.cs.but hx (by simp) h.pos.1;have hs:=h.iK;refine ⟨⟨{q.ci with hours:= ?_},{q.sp with off:={q.sp.off with}},{q.bl with},q.ext⟩,h.box.set 0 _,h.res.but hx (Ne.symm h.pos.2.2),{hs with hours:= ?_,res:= ?_,cS:=fun b hb=> ?_,tie:=fun b hb=> ?_},h.pos,h.far.but hx (fun b hb _=>by have:=h.kb;omega),h.kb,h.nb⟩
 ·have:=hs.hours;unfold bB;simp only;omega
 ·have:=hs.hours;simp only;omega
 ·have:=hs.res;simp only;omega
 ·have:=hs.cS b hb;simp only;omega
 ·have:=hs.tie b hb;simp only;omega
theorem iW.aA {V w0 w:World} {c0:ai} {N:List Nat} {B R:Nat} {c:ai} (h:iW V w0 c0 N w B R c) (k:Nat) (hk:(k:Int)=c.hours):iW V w0 c0 N (w.setCell ⟨B,1,none⟩ (.slice c.ra k c.rc)) B R {c with aA:=c.aA.take k}:=by
 have hx:=(ar.refl B w).eL (o:=1) (v:= .slice c.ra k c.rc);have q:=h.cs.but hx (by simp) h.pos.1;have hs:=h.iK;have hl:(c.aA.take k).length=k:=by rw [List.length_take];have:=hs.res;omega
 have hb:=h.box.set 1 (.slice c.ra k c.rc);refine ⟨⟨{q.ci with aA:=q.ci.aA.take k},{q.sp with off:={q.sp.off with}},{q.bl with},q.ext⟩,?_,h.res.but hx (Ne.symm h.pos.2.2),{hs with res:= ?_,small:= ?_},h.pos,h.far.but hx (fun b hb _=>by have:=h.kb;omega),h.kb,h.nb⟩
 ·simp only [ai.cells,hl];exact hb
 ·simp only [hl];omega
 ·have:=hs.small;have:=hs.hours;simp only [hl];omega
theorem iW.zO {V w0 w:World} {c0:ai} {N:List Nat} {B R:Nat} {c:ai} (h:iW V w0 c0 N w B R c) (i j:Nat) (hi:i<c.aj.length) (hj:j<3) (v:Value) (x:cN) (hc:x.cells=c.aj[i].cells.set j v) (hs:x.name.size≤maxLen∧aI w x.da x.dc x.cf∧bB x.lF) (zP:bT (fun b=>V.heap.size≤b∧b<w.heap.size∧b∉(B::R::N)) x.da) (uL:bT (bA c) x.da) (hS:vN {c with aj:=c.aj.set i x}):
 ∃g,c.ba=some ⟨g,0,none⟩∧w.frozen? ⟨g,i*3+j,none⟩=false∧(∀l,(hl:l<3)→w.cell? ⟨g,i*3+l,none⟩=some (c.aj[i].cells[l]'(hl)))∧g≠B∧g≠R∧ar g w (w.setCell ⟨g,i*3+j,none⟩ v)∧iW V w0 c0 N (w.setCell ⟨g,i*3+j,none⟩ v) B R {c with aj:=c.aj.set i x}:=by
 obtain ⟨g,h1,h2,h3,h4,h5,h6,h7⟩:=h.cs.zO i j hi hj v x hc hs zP uL;have hB:g≠B:=fun e=>h4 (by rw [e];simp);have hR:g≠R:=fun e=>h4 (by rw [e];simp);refine ⟨g,h1,h5,fun l hl=> ?_,hB,hR,h6,⟨h7,?_,h.res.but h6 (Ne.symm hR),hS,h.pos,h.far.but h6 (fun b hb ho=>h.far.ne hb ho (.inl h1)),h.kb,h.nb⟩⟩
 ·obtain ⟨b,o,e,q⟩:=h.cs.ci.aj.cell i (by rw [List.length_map];exact hi)
  rw [h1]at e;cases e
  have q2:=q l (by rw [List.getElem_map];exact hl);rw [Nat.zero_add]at q2;rw [q2];congr 1
  exact List.getElem_of_eq (List.getElem_map ..) _
 ·simp only [ai.cells,List.length_set]
  exact h.box.but h6 (Ne.symm hB)
theorem iW.vM {V w0 w:World} {c0:ai} {N:List Nat} {B R:Nat} {c:ai} (h:iW V w0 c0 N w B R c) (i j:Nat) (hi:i<c.lines.length) (hj:j<12) (v:Value) (x:aS) (hc:x.cells=c.lines[i].cells.set j v) (hs:x.name.size≤maxLen∧aI w x.aa x.ac x.away∧eI [x.cR,x.kq,x.rn,x.rd,x.qD,x.uf,x.sk,x.wI,x.cY,x.jH]) (zP:bT (fun b=>V.heap.size≤b∧b<w.heap.size∧b∉(B::R::N)) x.aa) (uL:bT (bA c) x.aa) (hS:vN {c with lines:=c.lines.set i x}):
 ∃g,c.la=some ⟨g,0,none⟩∧w.frozen? ⟨g,i*12+j,none⟩=false∧(∀l,(hl:l<12)→w.cell? ⟨g,i*12+l,none⟩=some (c.lines[i].cells[l]'(hl)))∧g≠B∧g≠R∧ar g w (w.setCell ⟨g,i*12+j,none⟩ v)∧iW V w0 c0 N (w.setCell ⟨g,i*12+j,none⟩ v) B R {c with lines:=c.lines.set i x}:=by
 obtain ⟨g,h1,h2,h3,h4,h5,h6,h7⟩:=h.cs.vM i j hi hj v x hc hs zP uL;have hB:g≠B:=fun e=>h4 (by rw [e];simp);have hR:g≠R:=fun e=>h4 (by rw [e];simp);refine ⟨g,h1,h5,fun l hl=> ?_,hB,hR,h6,⟨h7,?_,h.res.but h6 (Ne.symm hR),hS,h.pos,h.far.but h6 (fun b hb ho=>h.far.ne hb ho (.inr (.inl h1))),h.kb,h.nb⟩⟩
 ·obtain ⟨b,o,e,q⟩:=h.cs.ci.lines.cell i (by rw [List.length_map];exact hi)
  rw [h1]at e;cases e
  have q2:=q l (by rw [List.getElem_map];exact hl);rw [Nat.zero_add]at q2;rw [q2];congr 1
  exact List.getElem_of_eq (List.getElem_map ..) _
 ·simp only [ai.cells,List.length_set]
  exact h.box.but h6 (Ne.symm hB)
theorem iW.rq {V w0 w:World} {c0:ai} {N:List Nat} {B R:Nat} {c:ai} (h:iW V w0 c0 N w B R c) (i j:Nat) (hi:i<c.aq.length) (hj:j<22) (v:Value) (x:aK) (hc:x.cells=c.aq[i].cells.set j v) (hs:x.name.size≤maxLen∧aI w x.aa x.ac x.away∧bH w 2 x.sa x.sc (x.aU.map dH.cells)∧(∀s∈x.aU,eI [s.width,s.aV])∧eI [x.cS,x.min,x.max,x.fu,x.fw,x.dv,x.cL,x.dx,x.fz,x.dy,x.startTime,x.dS,x.dz,x.dA,x.aA,x.bK,x.state,x.hours,x.output]) (zP:bT (fun b=>V.heap.size≤b∧b<w.heap.size∧b∉(B::R::N)) x.sa) (uL:bT (bA c) x.sa) (JD:bT (fun b=>V.heap.size≤b∧b<w.heap.size∧b∉(B::R::N)) x.aa) (Fj:bT (bA c) x.aa) (hS:vN {c with aq:=c.aq.set i x}):
 ∃g,c.ua=some ⟨g,0,none⟩∧w.frozen? ⟨g,i*22+j,none⟩=false∧(∀l,(hl:l<22)→w.cell? ⟨g,i*22+l,none⟩=some (c.aq[i].cells[l]'(hl)))∧g≠B∧g≠R∧ar g w (w.setCell ⟨g,i*22+j,none⟩ v)∧iW V w0 c0 N (w.setCell ⟨g,i*22+j,none⟩ v) B R {c with aq:=c.aq.set i x}:=by
 obtain ⟨g,h1,h2,h3,h4,h5,h6,h7⟩:=h.cs.rq i j hi hj v x hc hs zP uL JD Fj;have hB:g≠B:=fun e=>h4 (by rw [e];simp);have hR:g≠R:=fun e=>h4 (by rw [e];simp);refine ⟨g,h1,h5,fun l hl=> ?_,hB,hR,h6,⟨h7,?_,h.res.but h6 (Ne.symm hR),hS,h.pos,h.far.but h6 (fun b hb ho=>h.far.ne hb ho (.inr (.inr (.inl h1)))),h.kb,h.nb⟩⟩
 ·obtain ⟨b,o,e,q⟩:=h.cs.ci.aq.cell i (by rw [List.length_map];exact hi)
  rw [h1]at e;cases e
  have q2:=q l (by rw [List.getElem_map];exact hl);rw [Nat.zero_add]at q2;rw [q2];congr 1
  exact List.getElem_of_eq (List.getElem_map ..) _
 ·simp only [ai.cells,List.length_set]
  exact h.box.but h6 (Ne.symm hB)
theorem iW.tv {V w0 w:World} {c0:ai} {N:List Nat} {B R:Nat} {c:ai} (h:iW V w0 c0 N w B R c) (i j:Nat) (hi:i<c.stores.length) (hj:j<9) (v:Value) (x:bG) (hc:x.cells=c.stores[i].cells.set j v) (hs:x.name.size≤maxLen∧eI [x.cS,x.capacity,x.initial,x.final,x.fS,x.discharge,x.en,x.ed]) (hS:vN {c with stores:=c.stores.set i x}):
 ∃g,c.sa=some ⟨g,0,none⟩∧w.frozen? ⟨g,i*9+j,none⟩=false∧(∀l,(hl:l<9)→w.cell? ⟨g,i*9+l,none⟩=some (c.stores[i].cells[l]'(hl)))∧g≠B∧g≠R∧ar g w (w.setCell ⟨g,i*9+j,none⟩ v)∧iW V w0 c0 N (w.setCell ⟨g,i*9+j,none⟩ v) B R {c with stores:=c.stores.set i x}:=by
 obtain ⟨g,h1,h2,h3,h4,h5,h6,h7⟩:=h.cs.tv i j hi hj v x hc hs;have hB:g≠B:=fun e=>h4 (by rw [e];simp);have hR:g≠R:=fun e=>h4 (by rw [e];simp);refine ⟨g,h1,h5,fun l hl=> ?_,hB,hR,h6,⟨h7,?_,h.res.but h6 (Ne.symm hR),hS,h.pos,h.far.but h6 (fun b hb ho=>h.far.ne hb ho (.inr (.inr (.inr (.inl h1))))),h.kb,h.nb⟩⟩
 ·obtain ⟨b,o,e,q⟩:=h.cs.ci.stores.cell i (by rw [List.length_map];exact hi)
  rw [h1]at e;cases e
  have q2:=q l (by rw [List.getElem_map];exact hl);rw [Nat.zero_add]at q2;rw [q2];congr 1
  exact List.getElem_of_eq (List.getElem_map ..) _
 ·simp only [ai.cells,List.length_set]
  exact h.box.but h6 (Ne.symm hB)
theorem iW.o_ {V w0 w:World} {c0:ai} {N:List Nat} {B R:Nat} {c:ai} (h:iW V w0 c0 N w B R c) (i j:Nat) (hi:i<c.aB.length) (hj:j<5) (v:Value) (x:dX) (hc:x.cells=c.aB[i].cells.set j v) (hs:x.name.size≤maxLen∧aI w x.ia x.ic x.imp∧aI w x.ea x.ec x.exp∧aI w x.pa x.pc x.aV∧bB x.cS) (zP:bT (fun b=>V.heap.size≤b∧b<w.heap.size∧b∉(B::R::N)) x.ia) (uL:bT (bA c) x.ia) (JD:bT (fun b=>V.heap.size≤b∧b<w.heap.size∧b∉(B::R::N)) x.ea) (Fj:bT (bA c) x.ea) (lH:bT (fun b=>V.heap.size≤b∧b<w.heap.size∧b∉(B::R::N)) x.pa) (mM:bT (bA c) x.pa) (hS:vN {c with aB:=c.aB.set i x}):
 ∃g,c.ta=some ⟨g,0,none⟩∧w.frozen? ⟨g,i*5+j,none⟩=false∧(∀l,(hl:l<5)→w.cell? ⟨g,i*5+l,none⟩=some (c.aB[i].cells[l]'(hl)))∧g≠B∧g≠R∧ar g w (w.setCell ⟨g,i*5+j,none⟩ v)∧iW V w0 c0 N (w.setCell ⟨g,i*5+j,none⟩ v) B R {c with aB:=c.aB.set i x}:=by
 obtain ⟨g,h1,h2,h3,h4,h5,h6,h7⟩:=h.cs.o_ i j hi hj v x hc hs zP uL JD Fj lH mM;have hB:g≠B:=fun e=>h4 (by rw [e];simp);have hR:g≠R:=fun e=>h4 (by rw [e];simp);refine ⟨g,h1,h5,fun l hl=> ?_,hB,hR,h6,⟨h7,?_,h.res.but h6 (Ne.symm hR),hS,h.pos,h.far.but h6 (fun b hb ho=>h.far.ne hb ho (.inr (.inr (.inr (.inr (.inl h1)))))),h.kb,h.nb⟩⟩
 ·obtain ⟨b,o,e,q⟩:=h.cs.ci.aB.cell i (by rw [List.length_map];exact hi)
  rw [h1]at e;cases e
  have q2:=q l (by rw [List.getElem_map];exact hl);rw [Nat.zero_add]at q2;rw [q2];congr 1
  exact List.getElem_of_eq (List.getElem_map ..) _
 ·simp only [ai.cells,List.length_set]
  exact h.box.but h6 (Ne.symm hB)
theorem iW.zQ {V w0 w:World} {c0:ai} {N:List Nat} {B R:Nat} {c:ai} (h:iW V w0 c0 N w B R c) (i j:Nat) (hi:i<c.outs.length) (hj:j<4) (v:Value) (x:aY) (hc:x.cells=c.outs[i].cells.set j v) (hs:x.name.size≤maxLen∧aI w x.la x.lc x.lines∧bH w 3 x.ma x.mc (x.moves.map bL.cells)∧ ∀m∈x.moves,eI [m.unit,m.up,m.down]) (zP:bT (fun b=>V.heap.size≤b∧b<w.heap.size∧b∉(B::R::N)) x.la) (uL:bT (bA c) x.la) (JD:bT (fun b=>V.heap.size≤b∧b<w.heap.size∧b∉(B::R::N)) x.ma) (Fj:bT (bA c) x.ma) (hS:vN {c with outs:=c.outs.set i x}):
 ∃g,c.oa=some ⟨g,0,none⟩∧w.frozen? ⟨g,i*4+j,none⟩=false∧(∀l,(hl:l<4)→w.cell? ⟨g,i*4+l,none⟩=some (c.outs[i].cells[l]'(hl)))∧g≠B∧g≠R∧ar g w (w.setCell ⟨g,i*4+j,none⟩ v)∧iW V w0 c0 N (w.setCell ⟨g,i*4+j,none⟩ v) B R {c with outs:=c.outs.set i x}:=by
 obtain ⟨g,h1,h2,h3,h4,h5,h6,h7⟩:=h.cs.zQ i j hi hj v x hc hs zP uL JD Fj;have hB:g≠B:=fun e=>h4 (by rw [e];simp);have hR:g≠R:=fun e=>h4 (by rw [e];simp);refine ⟨g,h1,h5,fun l hl=> ?_,hB,hR,h6,⟨h7,?_,h.res.but h6 (Ne.symm hR),hS,h.pos,h.far.but h6 (fun b hb ho=>h.far.ne hb ho (.inr (.inr (.inr (.inr (.inr h1)))))),h.kb,h.nb⟩⟩
 ·obtain ⟨b,o,e,q⟩:=h.cs.ci.outs.cell i (by rw [List.length_map];exact hi)
  rw [h1]at e;cases e
  have q2:=q l (by rw [List.getElem_map];exact hl);rw [Nat.zero_add]at q2;rw [q2];congr 1
  exact List.getElem_of_eq (List.getElem_map ..) _
 ·simp only [ai.cells,List.length_set]
  exact h.box.but h6 (Ne.symm hB)
theorem zR {V w W W2:World} {N:List Nat} {c:ai} (h:CS V w N c) (hN: ∀b∈N,b<w.heap.size) (hs:vN c) (hW:w.alloc (.cells c.cells.toArray 32)=W) (hW2:W.alloc (.cells lS.cells.toArray 32)=W2): ∃B R,B=w.heap.size∧B+1=R∧iW V w c N W2 B R c:=by
 obtain ⟨B,hB,x,A⟩:=bX hW;obtain ⟨R,hR,x2,A2⟩:=bX hW2;have vO:B+1=R:=by rw [hR,←hW,World.size_alloc,hB]
 have h1:=h.ext.size;have q:=(h.more (K:=R) (h.bl.mono fun b hb=>by omega)).more (K:=B) (h.bl.mono fun b hb=>by omega);exact ⟨B,R,hB,vO,q.grow (x.trans x2),A.ext x2,A2,hs,⟨by omega,by omega,by omega⟩,(uq.refl w c).grow (x.trans x2),⟨by omega,by omega⟩,hN⟩
def Cut (V w0:World) (c0:ai) (N:List Nat) (B R:Nat) (c:ai) (w:World):Prop:= ∃d,iW V w0 c0 N w B R d∧d.hours=c.hours∧lT c d
theorem iW.OZ {V w0 w:World} {c0:ai} {N:List Nat} {B R:Nat} {c:ai} {n:Nat} (h:iW V w0 c0 N w B R c) (k:Nat) (hk:k<c.aj.length) (hn:c.hours=n):
 ∃g,c.ba=some ⟨g,0,none⟩∧w.frozen? ⟨g,k*3+1,none⟩=false∧w.cell? ⟨g,k*3+1,none⟩=some (.slice c.aj[k].da c.aj[k].cf.length c.aj[k].dc)∧(n:Int)≤(c.aj[k].dc:Int)∧Cut V w0 c0 N B R c (w.setCell ⟨g,k*3+1,none⟩ (.slice c.aj[k].da n c.aj[k].dc)):=by
 have hm:=List.getElem_mem hk;have hs:=h.iK.cS _ hm;have hc:=h.cs.ci.cS _ hm;have hle:=hc.2.1.le;have hl:(c.aj[k].cf.take n).length=n:=by rw [List.length_take];omega
 have hS: ∀b∈c.aj.set k {c.aj[k]with cf:=c.aj[k].cf.take n},c.hours≤b.cf.length∧b.cf.length≤100:=fun b hb=>by
  rcases List.mem_or_eq_of_mem_set hb with q|rfl
  ·exact h.iK.cS b q
  ·simp only [hl];omega
 obtain ⟨g,h1,h2,h3,h4,h5,h6,h7⟩:=h.zO k 1 hk (by decide) (.slice c.aj[k].da n c.aj[k].dc) {c.aj[k]with cf:=c.aj[k].cf.take n} (by simp only [cN.cells,hl];rfl) ⟨hc.1,hc.2.1.take n,hc.2.2⟩
  (h.cs.bl.cS c.aj[k] hm) (h.cs.sp.off.cS c.aj[k] hm) {h.iK with cS:=hS,small:=by have:=h.iK.small;simp only [List.length_set];exact this}
 exact ⟨g,h1,h2,h3 1 (by decide),by omega,_,h7,rfl,by simp only [List.length_set],rfl,rfl,rfl,rfl,rfl⟩
theorem iW.Fk {V w0 w:World} {c0:ai} {N:List Nat} {B R:Nat} {c:ai} (h:iW V w0 c0 N w B R c) (k:Nat) (hk:k<c.lines.length) (a':Option Addr) (c':Nat) (l':List Int) (hi:aI w a' c' l') (hP:bT (fun b=>V.heap.size≤b∧b<w.heap.size∧b∉(B::R::N)) a') (hO:bT (bA c) a') (hl:l'.length≤100):
 ∃g,c.la=some ⟨g,0,none⟩∧w.frozen? ⟨g,k*12+11,none⟩=false∧w.cell? ⟨g,k*12+11,none⟩=some (.slice c.lines[k].aa c.lines[k].away.length c.lines[k].ac)∧Cut V w0 c0 N B R c (w.setCell ⟨g,k*12+11,none⟩ (.slice a' l'.length c')):=by
 have hm:=List.getElem_mem hk;have hc:=h.cs.ci.line _ hm
 have hS: ∀b∈c.lines.set k {c.lines[k]with aa:=a',ac:=c',away:=l'},b.away.length≤100:=fun b hb=>by
  rcases List.mem_or_eq_of_mem_set hb with q|rfl
  ·exact h.iK.line b q
  ·exact hl
 obtain ⟨g,h1,h2,h3,h4,h5,h6,h7⟩:=h.vM k 11 hk (by decide) (.slice a' l'.length c') {c.lines[k]with aa:=a',ac:=c',away:=l'} rfl ⟨hc.1,hi,hc.2.2⟩ hP hO {h.iK with line:=hS,small:=by have:=h.iK.small;simp only [List.length_set];exact this};exact ⟨g,h1,h2,h3 11 (by decide),_,h7,rfl,rfl,by simp only [List.length_set],rfl,rfl,rfl,rfl⟩
theorem iW.Fl {V w0 w:World} {c0:ai} {N:List Nat} {B R:Nat} {c:ai} (h:iW V w0 c0 N w B R c) (k:Nat) (hk:k<c.aq.length) (a':Option Addr) (c':Nat) (l':List Int) (hi:aI w a' c' l') (hP:bT (fun b=>V.heap.size≤b∧b<w.heap.size∧b∉(B::R::N)) a') (hO:bT (bA c) a') (hl:l'.length≤100):
 ∃g,c.ua=some ⟨g,0,none⟩∧w.frozen? ⟨g,k*22+18,none⟩=false∧w.cell? ⟨g,k*22+18,none⟩=some (.slice c.aq[k].aa c.aq[k].away.length c.aq[k].ac)∧Cut V w0 c0 N B R c (w.setCell ⟨g,k*22+18,none⟩ (.slice a' l'.length c')):=by
 have hm:=List.getElem_mem hk;have hc:=h.cs.ci.unit _ hm
 have hS: ∀b∈c.aq.set k {c.aq[k]with aa:=a',ac:=c',away:=l'},b.away.length≤100:=fun b hb=>by
  rcases List.mem_or_eq_of_mem_set hb with q|rfl
  ·exact h.iK.unit b q
  ·exact hl
 obtain ⟨g,h1,h2,h3,h4,h5,h6,h7⟩:=h.rq k 18 hk (by decide) (.slice a' l'.length c') {c.aq[k]with aa:=a',ac:=c',away:=l'} rfl ⟨hc.1,hi,hc.2.2⟩ (h.cs.bl.unit c.aq[k] hm).1 (h.cs.sp.off.unit c.aq[k] hm).1 hP hO {h.iK with unit:=hS,small:=by have:=h.iK.small;simp only [List.length_set];exact this};exact ⟨g,h1,h2,h3 18 (by decide),_,h7,rfl,rfl,rfl,by simp only [List.length_set],rfl,rfl,rfl⟩
section
open Go
variable{P:Program} {ops:Array Oper} {Q:Exit→Act→World→Prop} {S R:World→Prop} {Z:Nat→Bool} {n:Nat} {ls oX:Array Bool} {a a':Act} {w:World}
abbrev DR (P:Program) (ops:Array Oper) (Q:Exit→Act→World→Prop) (S R:World→Prop) (Z:Nat→Bool):=eu P .any ops Q S R Z
theorem yG {id:Nat} (Z:Nat→Bool) (S R:World→Prop) (hS:S w.drew) (hR:R w.drew) (h:S w.drew→R w.drew→DR P ops Q S R Z ops.size ls a w.drew) (hm:P.follows .mixedOrders=true:=by kernel_rfl)
 (hl:Array.replicate ops.size false=ls:=by simp only [List.size_toArray,List.length_cons,List.length_nil,Nat.reduceAdd,Array.replicate_succ,Array.replicate_zero,List.push_toArray,List.append_toArray,List.nil_append,List.cons_append];rfl):(Code.region id ops true).wp P Q a w:=
 aL S R _ hm hS hR fun h0 h1=>hl▸h h0 h1
theorem yT (d:Nat) {i:Nat} {v:Value} {o:Oper} (hS:S w) (hR:R w) (h:DR P ops Q S R Z n oX a' w) (hd:ops.size-(n+1)+d=i:=by simp only [List.size_toArray,List.length_cons,List.length_nil,Nat.reduceAdd,Nat.reduceSub];rfl) (hi:ops[i]?=some o:=by rfl) (hy: ∀w,S w→(execOp a.eval o).run P w= .ok (.value v) w:=by intro w e;go_simp;try rfl)
 (hl:ls.setIfInBounds i true=oX:=by simp only [sS];rfl) (ha:a.put o.dst v=a':=by simp only [sS,Act.put];rfl)
 (h1:Region.noSelect ops=true:=by kernel_rfl) (h2:Region.free .any ops ls i=true:=by kernel_rfl)
 (h3:(Region.ready .any ops ls).contains i=true:=by kernel_rfl) (h4:Z i=false:=by kernel_rfl)
 (h5: ∀c a w,Q (.panic c) (a.put o.dst v) w→Q (.panic c) a w:=by exact fun _ _ _ h=>h) (h6:Region.wanted o (yielded ops a.tmps)=true:=by rfl):DR P ops Q S R Z (n+1) ls a w:=by
 subst hl ha;exact eV hi h1 h2 h3 h4 h5 (Or.inl ⟨h6,hy⟩) hS (Or.inl hR) h
theorem yR (d:Nat) {i:Nat} {v:Value} {o:Oper} (hS:S w) (hR:R w) (h:DR P ops Q S R Z n oX a' w) (hd:ops.size-(n+1)+d=i:=by simp only [List.size_toArray,List.length_cons,List.length_nil,Nat.reduceAdd,Nat.reduceSub];rfl) (hi:ops[i]?=some o:=by rfl) (hy: ∀w,S w∧R w→(execOp a.eval o).run P w= .ok (.value v) w:=by intro w e;go_simp;try rfl)
 (hl:ls.setIfInBounds i true=oX:=by simp only [sS];rfl) (ha:a.put o.dst v=a':=by simp only [sS,Act.put];rfl)
 (h1:Region.noSelect ops=true:=by kernel_rfl) (h2:Region.free .any ops ls i=true:=by kernel_rfl)
 (h3:(Region.ready .any ops ls).contains i=true:=by kernel_rfl) (h4:Z i=false:=by kernel_rfl) (h7:uY .any ops Z i=true:=by kernel_rfl) (h8:og Z ls=false:=by kernel_rfl)
 (h5: ∀c a w,Q (.panic c) (a.put o.dst v) w→Q (.panic c) a w:=by exact fun _ _ _ h=>h) (h6:Region.wanted o (yielded ops a.tmps)=true:=by rfl):DR P ops Q S R Z (n+1) ls a w:=by
 subst hl ha;exact mV hi h1 h2 h3 h4 h7 h8 h5 (Or.inl ⟨h6,hy⟩) hS hR h
theorem yL (d:Nat) {i:Nat} {v:Value} {o:Oper} (hS:S w) (h:DR P ops Q S R Z n oX a' w) (hd:ops.size-(n+1)+d=i:=by simp only [List.size_toArray,List.length_cons,List.length_nil,Nat.reduceAdd,Nat.reduceSub];rfl) (hi:ops[i]?=some o:=by rfl) (hy: ∀w,S w→(execOp a.eval o).run P w= .ok (.value v) w:=by intro w e;go_simp;try rfl)
 (hl:ls.setIfInBounds i true=oX:=by simp only [sS];rfl) (ha:a.put o.dst v=a':=by simp only [sS,Act.put];rfl)
 (h1:Region.noSelect ops=true:=by kernel_rfl) (h2:Region.free .any ops ls i=true:=by kernel_rfl)
 (h3:(Region.ready .any ops ls).contains i=true:=by kernel_rfl) (h4:Z i=false:=by kernel_rfl) (h8:og Z ls=true:=by kernel_rfl)
 (h5: ∀c a w,Q (.panic c) (a.put o.dst v) w→Q (.panic c) a w:=by exact fun _ _ _ h=>h) (h6:Region.wanted o (yielded ops a.tmps)=true:=by rfl):DR P ops Q S R Z (n+1) ls a w:=by
 subst hl ha;exact eV hi h1 h2 h3 h4 h5 (Or.inl ⟨h6,hy⟩) hS (Or.inr h8) h
theorem yZ (i:Nat) {o:Oper} (h: ∀K':Act→World→Prop,Shut (∀a w,S w→(S w→DR P ops Q S R Z n oX a w)→K' a w)→if Region.wanted o (yielded ops a.tmps)=true then Oper.wp P o a w K' Q else K' (a.put o.dst undef) w)
 (ho:ops[i]?=some o:=by rfl) (hl:ls.setIfInBounds i true=oX:=by simp only [sS];rfl) (hr:Region.ready .any ops ls= [i]:=by kernel_rfl) (hz:og Z (ls.setIfInBounds i true)=true:=by kernel_rfl):DR P ops Q S R Z (n+1) ls a w:=by
 subst hl;exact bE hr (by simp) (aH.late ho hz h aH.nil)
theorem yD (h:Q .normal a w) (hr:Region.ready .any ops ls= []:=by kernel_rfl):DR P ops Q S R Z n ls a w:=aD hr h _
theorem yC (i:Nat) {o:Oper} (h: ∀K':Act→World→Prop,Shut (∀a w,S w→R w→(S w→R w→DR P ops Q S R Z n oX a w)→K' a w)→if Region.wanted o (yielded ops a.tmps)=true then Oper.wp P o a w K' Q else K' (a.put o.dst undef) w)
 (ho:ops[i]?=some o:=by rfl) (hl:ls.setIfInBounds i true=oX:=by simp only [sS];rfl) (hr:Region.ready .any ops ls= [i]:=by kernel_rfl):DR P ops Q S R Z (n+1) ls a w:=by
 subst hl;exact bE hr (by simp) (aH.cons ho h aH.nil)
end
theorem iW.JE {V w0 w:World} {c0:ai} {N:List Nat} {B R:Nat} {c:ai} {n:Nat} (h:iW V w0 c0 N w B R c) (k:Nat) (hk:k<c.aB.length) (hn:c.hours=n):
 ∃g,c.ta=some ⟨g,0,none⟩∧g≠B∧(∃cur,aQ w g 84 cur∧cur[k*5+2]?=some (.slice c.aB[k].ia c.aB[k].imp.length c.aB[k].ic)∧cur[k*5+3]?=some (.slice c.aB[k].ea c.aB[k].exp.length c.aB[k].ec)∧cur[k*5+4]?=some (.slice c.aB[k].pa c.aB[k].aV.length c.aB[k].pc))∧
  ((n:Int)≤(c.aB[k].ic:Int)∧(n:Int)≤(c.aB[k].ec:Int)∧(n:Int)≤(c.aB[k].pc:Int))∧
  Cut V w0 c0 N B R c (((w.setCell ⟨g,k*5+2,none⟩ (.slice c.aB[k].ia n c.aB[k].ic)).setCell ⟨g,k*5+3,none⟩ (.slice c.aB[k].ea n c.aB[k].ec)).setCell ⟨g,k*5+4,none⟩ (.slice c.aB[k].pa n c.aB[k].pc)):=by
 have hm:=List.getElem_mem hk;have hs:=h.iK.tie _ hm;have hc:=h.cs.ci.tie _ hm;have hP:=h.cs.bl.tie _ hm;have hO:=h.cs.sp.off.tie _ hm;have l1:=hc.2.1.le;have l2:=hc.2.2.1.le;have l3:=hc.2.2.2.1.le
 obtain ⟨t,ht⟩: ∃t,t=c.aB[k]:=⟨_,rfl⟩;rw [←ht]at hs hc hP hO l1 l2 l3⊢;have e1:(t.imp.take n).length=n:=by rw [List.length_take];omega
 have e2:(t.exp.take n).length=n:=by rw [List.length_take];omega
 have e3:(t.aV.take n).length=n:=by rw [List.length_take];omega
 have S1: ∀b∈c.aB.set k {t with imp:=t.imp.take n},(c.hours≤b.imp.length∧b.imp.length≤100)∧(c.hours≤b.exp.length∧b.exp.length≤100)∧(c.hours≤b.aV.length∧b.aV.length≤100):=fun b hb=>by
  rcases List.mem_or_eq_of_mem_set hb with q|rfl
  ·exact h.iK.tie b q
  ·simp only [e1];omega
 obtain ⟨g,h1,h2,h3,h4,h5,h6,h7⟩:=h.o_ k 2 hk (by decide) (.slice t.ia n t.ic) {t with imp:=t.imp.take n} (by rw [←ht];simp only [dX.cells,e1];rfl) ⟨hc.1,hc.2.1.take n,hc.2.2⟩
  hP.1 hO.1 hP.2.1 hO.2.1 hP.2.2 hO.2.2 {h.iK with tie:=S1,small:=by have:=h.iK.small;simp only [List.length_set];exact this}
 have Vt: ∃cur,aQ w g 84 cur:=by
  obtain ⟨g2,cur,e,hA⟩:=h.cs.sp.ta _ h1;cases e;exact ⟨cur,hA⟩
 obtain ⟨cur,hA⟩:=Vt;have hk2:k<(c.aB.set k {t with imp:=t.imp.take n}).length:=by rw [List.length_set];exact hk
 have hg2:(c.aB.set k {t with imp:=t.imp.take n})[k]={t with imp:=t.imp.take n}:=List.getElem_set_self _;have nc:=List.getElem_mem hk2;have hc2:=h7.cs.ci.tie _ nc;have lH:=h7.cs.bl.tie _ nc;have mM:=h7.cs.sp.off.tie _ nc;rw [hg2]at hc2 lH mM
 have S2: ∀b∈(c.aB.set k {t with imp:=t.imp.take n}).set k {t with imp:=t.imp.take n,exp:=t.exp.take n},(c.hours≤b.imp.length∧b.imp.length≤100)∧(c.hours≤b.exp.length∧b.exp.length≤100)∧(c.hours≤b.aV.length∧b.aV.length≤100):=fun b hb=>by
  rcases List.mem_or_eq_of_mem_set hb with q|rfl
  ·exact S1 b q
  ·simp only [e1,e2];omega
 obtain ⟨g2,i1,i2,i3,i4,i5,i6,i7⟩:=h7.o_ k 3 hk2 (by decide) (.slice t.ea n t.ec) {t with imp:=t.imp.take n,exp:=t.exp.take n} (by rw [hg2];simp only [dX.cells,e2];rfl) ⟨hc2.1,hc2.2.1,hc2.2.2.1.take n,hc2.2.2.2⟩
  lH.1 mM.1 lH.2.1 mM.2.1 lH.2.2 mM.2.2 {h7.iK with tie:=S2,small:=by have:=h7.iK.small;simp only [List.length_set]at this⊢;exact this}
 have e4:g2=g:=by
  have q:c.ta=some ⟨g2,0,none⟩:=i1;rw [h1]at q;cases q;rfl
 subst e4;have hk3:k<((c.aB.set k {t with imp:=t.imp.take n}).set k {t with imp:=t.imp.take n,exp:=t.exp.take n}).length:=by rw [List.length_set];exact hk2
 have hg3:((c.aB.set k {t with imp:=t.imp.take n}).set k {t with imp:=t.imp.take n,exp:=t.exp.take n})[k]={t with imp:=t.imp.take n,exp:=t.exp.take n}:=List.getElem_set_self _;have Vu:=List.getElem_mem hk3;have hc3:=i7.cs.ci.tie _ Vu;have Qz:=i7.cs.bl.tie _ Vu;have Vv:=i7.cs.sp.off.tie _ Vu;rw [hg3]at hc3 Qz Vv
 have S3: ∀b∈((c.aB.set k {t with imp:=t.imp.take n}).set k {t with imp:=t.imp.take n,exp:=t.exp.take n}).set k {t with imp:=t.imp.take n,exp:=t.exp.take n,aV:=t.aV.take n},(c.hours≤b.imp.length∧b.imp.length≤100)∧(c.hours≤b.exp.length∧b.exp.length≤100)∧(c.hours≤b.aV.length∧b.aV.length≤100):=fun b hb=>by
  rcases List.mem_or_eq_of_mem_set hb with q|rfl
  ·exact S2 b q
  ·simp only [e1,e2,e3];omega
 obtain ⟨g3,j1,j2,j3,j4,j5,j6,j7⟩:=i7.o_ k 4 hk3 (by decide) (.slice t.pa n t.pc) {t with imp:=t.imp.take n,exp:=t.exp.take n,aV:=t.aV.take n} (by rw [hg3];simp only [dX.cells,e3];rfl) ⟨hc3.1,hc3.2.1,hc3.2.2.1,hc3.2.2.2.1.take n,hc3.2.2.2.2⟩
  Qz.1 Vv.1 Qz.2.1 Vv.2.1 Qz.2.2 Vv.2.2 {i7.iK with tie:=S3,small:=by have:=i7.iK.small;simp only [List.length_set]at this⊢;exact this}
 have e5:g3=g2:=by
  have q:c.ta=some ⟨g3,0,none⟩:=j1;rw [h1]at q;cases q;rfl
 subst e5;have cc: ∀l v,w.cell? ⟨g3,k*5+l,none⟩=some v→cur[k*5+l]?=some v:=fun l v q=>by rw [←hA.cell];exact q
 refine ⟨g3,h1,h4,⟨cur,hA,cc 2 _ ?_,cc 3 _ ?_,cc 4 _ ?_⟩,⟨by omega,by omega,by omega⟩,_,j7,rfl,rfl,rfl,rfl,rfl,by simp only [List.length_set],rfl⟩
 ·rw [h3 2 (by decide),←ht];rfl
 ·rw [h3 3 (by decide),←ht];rfl
 ·rw [h3 4 (by decide),←ht];rfl
end Go.Proofs.YtkpngkdgphojlaaGreat
