/- Texts of the proof. -/
import Derived.Shelf.SlMaps.Clone
import Derived.Shelf.SlicesE.Reverse
import Derived.Test.YtkpngkdgphojlaaGreatCf52
set_option linter.all false
set_option maxHeartbeats 4000000
set_option maxRecDepth 100000
namespace Go.Proofs.YtkpngkdgphojlaaGreat
open Go.Proofs.Tryz
open Go.RowKit Go.Sort Go.Shelf
end Go.Proofs.YtkpngkdgphojlaaGreat
namespace Go.Proofs
open Go.Shelf
end Go.Proofs
namespace Go.Proofs
open Go.Shelf
end Go.Proofs
namespace Go.Proofs.YtkpngkdgphojlaaGreat
open Go.Proofs.Tryz
open Go.RowKit
open Go.Sort Go.Shelf
theorem EA.but {fs:List Rat} {n blk:Nat} {w w':World} (h:EA fs n blk w w'):ar blk w w':=⟨h.os,h.tape,h.output,h.drawn,h.size,h.agree⟩
theorem ar.arr {b g:Nat} {w w':World} (h:ar b w w') {T:TypeId} {vs:List Value} (hg:g≠b) (hA:aQ w g T vs):aQ w' g T vs:=by
 unfold aQ;rw [h.block g hA.lt hg];exact hA
theorem mm.but {w w':World} {b g n:Nat} {K:Int→Prop} {f:Int→Int} (h:mm w b n K f) (t:ar g w w') (hg:b≠g):mm w' b n K f:=h.same (t.block b h.lt hg)
theorem ar.cell {b:Nat} {w w':World} (t:ar b w w') {p:Addr} {v:Value} (hp:p.block≠b) (h:w.cell? p=some v):w'.cell? p=some v:=by
 have:=cG h;unfold World.cell? at*;rw [t.block _ this hp];exact h
theorem ar.raw {b:Nat} {w w':World} (t:ar b w w') {a:Option Addr} {k c n:Nat} (h:Raw w a k c n) (ha: ∀x,a=some x→x.block≠b):Raw w' a k c n:=by
 obtain ⟨l,h1,h2,h3⟩:=h
 exact ⟨l,h1,h2,h3.le,h3.cap,h3.short,h3.Ia,h3.small,fun i hi=>by
  obtain ⟨b',o,e,hc⟩:=h3.cell i hi;exact ⟨b',o,e,t.cell (p:=⟨b',o+i,none⟩) (show b'≠b from ha ⟨b',o,none⟩ e) hc⟩⟩
theorem gA.but {b:Nat} {w w':World} {r:fG} {q:Rat} {B:Nat} (h:gA w r q B) (t:ar b w w') (hb:b<B):gA w' r q B:=
 ⟨h.s,h.k,h.j,t.raw h.num (h.fa.ne hb),t.raw h.den (h.fb.ne hb),h.fa,h.fb⟩
theorem ar.old {b:Nat} {w0 w w':World} (t:ar b w w') (h:jl w0 w) (hb:w0.heap.size≤b):jl w0 w':=fun p v e=>t.cell (by have:=cG e;omega) (h p v e)
theorem pQ.old {b:Nat} {w0 w w':World} (t:pQ b w w') (h:jl w0 w) (hb:w0.heap.size≤b):jl w0 w':=fun p v e=>t.cell (by have:=cG e;omega) (h p v e)
theorem r_ {P:Program} (w:World) {ops:Array Oper} {rest:List Oper} {o:Oper} {a:Act} {Q:Exit→Act→World→Prop}
 (hg:o.guard=none) (l c:Operand) (t:TypeId) (hop:o.op=Op.makeSlice t l c)
 (e:TypeId) (z:Value) (bytes:Nat) (h1:P.underlying t=some (.slice e)) (h2:(P.info? e).map (fun i=>(i.zero,i.size,i.bytes))=some (some z,3,bytes)) (h3:z.cells=oN.toArray)
 (L C:Int) (n:Nat) (hl:a.eval l= .int .i64 L) (hc:a.eval c= .int .i64 C) (hL:L=(n:Int)) (hC:C=(n:Int)) (b2:bytes*n≤281474976710656) (b3:n≤9223372036854775807)
 (hK: ∀w',Hid (aQ w' w.heap.size e (gY n))→Ext w w'→Hid (w'.heap.size=w.heap.size+1)→wpList P ops Q rest (a.put o.dst (.slice (some ⟨w.heap.size,0,none⟩) n n)) w'):
 wpList P ops Q (o::rest) a w:=by
 refine wpList_plain hg fun K hK'=> ?_;obtain ⟨i,h2,h4,h5,h6⟩:=info_parts h2;have hrun:=run_make (P:=P) w t e i z h1 h2 h4 .i64 .i64 n n (by omega) (Int.le_refl _) (by rw [h6,←Int.natCast_mul];omega) (by omega);subst hL;subst hC;unfold Oper.wp;simp only [Int.toNat_natCast,h5,h3,uw]at hrun;simp [execOp,hop,hl,hc,hrun,Result.andThen];exact hK' _ _ (hK _ (aQ.alloc _ _ _) ((Ext.refl _).alloc _) (show _=_ by simp))
theorem Uq (A:List Value) (m:Nat) (x y z:Value):(((A++gY (m+1)).set A.length x).set (A.length+1) y).set (A.length+2) z=(A++ [x,y,z])++gY m:=by
 have e:gY (m+1)= .bool false:: .slice none 0 0:: .slice none 0 0::gY m:=rfl;rw [e];generalize gY m=Z;rw [List.set_append_right _ _ (by omega),Nat.sub_self,List.set_cons_zero,List.set_append_right _ _ (by omega),Nat.add_sub_cancel_left,List.set_cons_succ,List.set_cons_zero,List.set_append_right _ _ (by omega),Nat.add_sub_cancel_left,List.set_cons_succ,List.set_cons_succ,List.set_cons_zero];simp
theorem jQ {w:World} {b x:Nat} {p:Addr} {u v0 v1 v2:Value} (h:w.cell? p=some u) (hb:p.block≠b):(((w.setCell ⟨b,x,none⟩ v0).setCell ⟨b,x+1,none⟩ v1).setCell ⟨b,x+2,none⟩ v2).cell? p=some u:=by
 rw [World.cell?_setCell_other _ _ _ _ (by intro e;exact hb (by rw [←e])),World.cell?_setCell_other _ _ _ _ (by intro e;exact hb (by rw [←e])),World.cell?_setCell_other _ _ _ _ (by intro e;exact hb (by rw [←e])),h]
theorem PN (w:World) (pb g n L:Nat) (rs:List fG) (fs:List Rat) (hp:w.cell? ⟨pb,0,none⟩=some (.slice (some ⟨g,0,none⟩) n n)) (hR:mS w (some ⟨g,0,none⟩) n rs fs L) (hn:rs.length=n) (hL:L<100000000) (x y:Nat) (hx:x<n) (hy:y<n):
 Calls prog 114 #[.int .i64 (x:Nat),.int .i64 (y:Nat),.pointer (some ⟨pb,0,none⟩)] w fun e w'=>e= .returned (.int .i64 (lZ fs x y))∧Ext w w':=by
 have MT:=hR.short;obtain ⟨b1,o1,e1,NL,PO,PQ⟩:=hR.cell x (by omega);cases e1
 obtain ⟨b2,o2,e2,PR,PS,PT⟩:=hR.cell y (by omega);cases e2
 rw [Nat.zero_add]at NL PO PQ PR PS PT;obtain ⟨n1,m1,r1,q1,v1,l1,l2⟩:=hR.num x (by omega);obtain ⟨n2,m2,r2,q2,v2,l3,l4⟩:=hR.num y (by omega);have hC:=fun V (hV:Ext w V)=>lY V rs[y].s _ _ _ _ _ _ _ _ (r2.ext hV) (q2.ext hV) rs[x].s _ _ _ _ _ _ _ _ (r1.ext hV) (q1.ext hV) (by omega) (by omega) (by omega) (by omega);have ex:fs[x]?.getD 0=fs[x]'(by rw [hR.len];omega):=by rw [List.getElem?_eq_getElem (by rw [hR.len];omega)];rfl
 have ey:fs[y]?.getD 0=fs[y]'(by rw [hR.len];omega):=by rw [List.getElem?_eq_getElem (by rw [hR.len];omega)];rfl
 rw [←v1,←v2,←ex,←ey]at hC;unfold lZ;generalize lI (fs[y]?.getD 0) (fs[x]?.getD 0)=z at hC⊢;have HC:=ae hC;clear hC ex ey v1 v2;generalize rs[x]=rx at*;generalize rs[y]=ry at*;have bx:(x:Int)<(n:Int):=by omega
 have by':(y:Int)<(n:Int):=by omega
 have cx:(0:Int)≤(x:Int):=by omega
 have cy:(0:Int)≤(y:Int):=by omega
 have hz:=cG hp;have hg:=cG NL;simp only at hz hg;go_enter func114,ntmps114
 go_wp2_with fail
 go_region_held3 (fun w'=>w'.cell? ⟨pb,0,none⟩=some (.slice (some ⟨g,0,none⟩) n n)∧w'.cell? ⟨g,x*3,none⟩=some (.bool rx.s)∧w'.cell? ⟨g,x*3+1,none⟩=some (.slice rx.a rx.k rx.c)∧w'.cell? ⟨g,x*3+2,none⟩=some (.slice rx.b rx.j rx.d)∧w'.cell? ⟨g,y*3,none⟩=some (.bool ry.s)∧w'.cell? ⟨g,y*3+1,none⟩=some (.slice ry.a ry.k ry.c)∧w'.cell? ⟨g,y*3+2,none⟩=some (.slice ry.b ry.j ry.d)) (first|exact ⟨hp,NL,PO,PQ,PR,PS,PT⟩|exact ⟨nJ hp,nJ NL,nJ PO,nJ PQ,nJ PR,nJ PS,nJ PT⟩) (first
  |(go_at_call 107;refine (HC.o _ (by exact (Ext.refl _).drew)).mono ?_;rintro e w1 ⟨rfl,x1⟩;have hp:=ak ((Ext.refl w).drew.trans x1) hp;have NL:=ak ((Ext.refl w).drew.trans x1) NL;have PO:=ak ((Ext.refl w).drew.trans x1) PO;have PQ:=ak ((Ext.refl w).drew.trans x1) PQ;have PR:=ak ((Ext.refl w).drew.trans x1) PR;have PS:=ak ((Ext.refl w).drew.trans x1) PS;have PT:=ak ((Ext.refl w).drew.trans x1) PT)
  |(go_at_call 116;refine (Ad _ _ _).mono ?_;rintro e w2 ⟨rfl,rfl⟩)
  |(go_at_call 115;refine (PM _ _ _ _ (aQ.alloc w1 3 [.int .i64 z,.int .i64 (jd (x:Int) (y:Int))])).mono ?_;rintro e w3 ⟨rfl,x3⟩;have y3:Ext w1 w3:=((Ext.refl w1).alloc _).trans x3;have hp:=ak y3 hp;have NL:=ak y3 NL;have PO:=ak y3 PO;have PQ:=ak y3 PQ;have PR:=ak y3 PR;have PS:=ak y3 PS;have PT:=ak y3 PT))
 all_goals go_wp2_with fail
 all_goals go_ret
 all_goals exact ⟨rfl,((Ext.refl _).drew.trans x1).trans y3⟩
end Go.Proofs.YtkpngkdgphojlaaGreat
namespace Go.Proofs
open Go.Shelf
end Go.Proofs
namespace Go.Proofs.YtkpngkdgphojlaaGreat
open Go.Proofs.Tryz
open Go.RowKit Go.Sort Go.Shelf
theorem pQ.ZR {b:Nat} {w w':World} (h:pQ b w w') {g c:Nat} {rs:List fG} {qs:List Rat} {L:Nat} (hr:mS w (some ⟨g,0,none⟩) c rs qs L) (hg:g≠b)
 (hb: ∀i (hi:i<rs.length),(∀x,rs[i].a=some x→x.block≠b)∧(∀x,rs[i].b=some x→x.block≠b)):mS w' (some ⟨g,0,none⟩) c rs qs L:=
 ⟨hr.len,hr.le,hr.cap,hr.short,fun i hi=>by
   obtain ⟨b',o,ha,h0,h1,h2⟩:=hr.cell i hi;cases ha
   exact ⟨g,0,rfl,h.cell hg h0,h.cell hg h1,h.cell hg h2⟩,fun i hi=>by
   obtain ⟨n,m,h1,h2,h3⟩:=hr.num i hi;exact ⟨n,m,h.raw h1 (hb i hi).1,h.raw h2 (hb i hi).2,h3⟩⟩
theorem MA (w:World) (pb g blk n L c:Nat) (rs:List fG) (fs:List Rat) (hp:w.cell? ⟨pb,0,none⟩=some (.slice (some ⟨g,0,none⟩) n n)) (hR:mS w (some ⟨g,0,none⟩) n rs fs L) (hn:rs.length=n) (hL:L<100000000) (h0:0<n) (EH:n<1000000)
 (Ur:pb≠blk) (hg:g≠blk) (hb: ∀i (hi:i<rs.length),(∀x,rs[i].a=some x→x.block≠blk)∧(∀x,rs[i].b=some x→x.block≠blk))
 (hO: ∀j,j<n→w.cell? ⟨blk,j,none⟩=some (.int .i64 (j:Nat))∧w.frozen? ⟨blk,j,none⟩=false):
 Calls prog 113 #[.slice (some ⟨blk,0,none⟩) n c,.func (.func 114) #[] #[.pointer (some ⟨pb,0,none⟩)]] w fun e w'=>e= .returned (.tuple #[])∧EA fs n blk w w':=by
 obtain ⟨n',rfl⟩: ∃n',n=n'+1:=⟨n-1,by omega⟩;have eg: ∀args w,(callFunc 114 args).run prog w= .ok (.enter 114 args) w:=enters_of func114 (by kernel_rfl) rfl
 have hsw:SWO (ltOf (fun a b:Fin (n'+1)=>lZ fs a b)):=by
  have e: ∀a b:Fin (n'+1),ltOf (fun a b:Fin (n'+1)=>lZ fs a b) a b=false↔ ¬lK fs a b:=by
   intro a b;unfold ltOf;rw [decide_eq_false_iff_not,rY]
  have e': ∀a b:Fin (n'+1),ltOf (fun a b:Fin (n'+1)=>lZ fs a b) a b=true↔lK fs a b:=by
   intro a b;unfold ltOf;rw [decide_eq_true_iff,rY]
  refine ⟨fun x=>(e x x).2 (tZ fs x),fun x y z h1 h2=>(e' x z).2 (qm ((e' x y).1 h1) ((e' y z).1 h2)),fun x y z h1 h2=>(e x z).2 (t_ ((e x y).1 h1) ((e y z).1 h2))⟩
 have ZT: ∀x y:Fin (n'+1),ltOf (fun a b:Fin (n'+1)=>lZ fs a b) x y=false→ltOf (fun a b:Fin (n'+1)=>lZ fs a b) y x=false→x=y:=by
  intro x y h1 h2;unfold ltOf at h1 h2;rw [decide_eq_false_iff_not,rY]at h1 h2;exact Fin.ext (qo fs x y h1 h2)
 have hsz:(Array.ofFn (fun i:Fin (n'+1)=>i)).size=n'+1:=by simp
 have hH:Holds (fun i:Fin (n'+1)=>Value.int .i64 (i.val:Nat)) w blk 0 (Array.ofFn (fun i:Fin (n'+1)=>i)):=by
  intro j hj;rw [hsz]at hj;rw [Nat.zero_add,getElem!_pos _ j (by rw [hsz];exact hj)];simp only [Array.getElem_ofFn];exact hO j hj
 have hblk:blk<w.heap.size:=cG (p:=⟨blk,0,none⟩) (hO 0 (by omega)).1
 have ur:CmpLays1 prog 114 #[.pointer (some ⟨pb,0,none⟩)] (fun i:Fin (n'+1)=>Value.int .i64 (i.val:Nat)) (fun a b:Fin (n'+1)=>lZ fs a b) blk 0 (Array.ofFn (fun i:Fin (n'+1)=>i)).size w:=by
  intro m os dk _ x y;have ag:=nV (fun i:Fin (n'+1)=>Value.int .i64 (i.val:Nat)) w blk 0 m dk os;refine (PN _ pb g (n'+1) L rs fs (ag.cell Ur hp) (ag.ZR hR hg hb) hn hL x y x.2 y.2).mono ?_;rintro e w' ⟨he,hx⟩;exact ⟨he,hx.grow⟩
 have hS:=Any.slices_SortFunc_total Tryz.sortL (fun i:Fin (n'+1)=>Value.int .i64 (i.val:Nat)) (fun _=>rfl) (fun a b:Fin (n'+1)=>lZ fs a b) hsw 114 #[.pointer (some ⟨pb,0,none⟩)] blk 0 c (Array.ofFn (fun i:Fin (n'+1)=>i)) w eg ur hH hblk (by rw [hsz];omega) ZT;rw [hsz]at hS;change Calls prog 113 _ _ _ at hS
 refine hS.mono ?_;rintro e w' ⟨he,m,os,rfl⟩;refine ⟨he,?_⟩;have hl:(Array.ofFn (fun i:Fin (n'+1)=>i)).toList=List.finRange (n'+1):=by simp [List.finRange]
 rw [hl];have hlen:(gO fs (n'+1)).toArray.size=n'+1:=by simp [gO]
 refine ⟨fun j hj=> ?_,nV _ _ _ _ _ _ _,?_,rfl,rfl,rfl,?_⟩
 ·have hw:SW (fun i:Fin (n'+1)=>Value.int .i64 (i.val:Nat)) w blk 0 (gO fs (n'+1)).toArray (sortWorld (fun i:Fin (n'+1)=>Value.int .i64 (i.val:Nat)) w blk 0 m (gO fs (n'+1)).toArray os):=⟨m,os,rfl⟩
  have h5:=(hw.holds hblk hH (by rw [hlen,hsz]) j (by rw [hlen];exact hj)).1;rw [Nat.zero_add]at h5;refine h5.trans ?_;rw [getElem!_pos _ j (by rw [hlen];exact hj)];unfold gZ;rw [List.getElem?_eq_getElem (by have:=hlen;simp at this;omega)];rfl
 ·show w.heap.size≤(sortWorld _ w blk 0 m _ os).heap.size
  unfold sortWorld;rw [size_grow,size_putRow];exact Nat.le_add_right _ _
 ·show w.drawn≤w.drawn+m
  exact Nat.le_add_right _ _
theorem oU {p q:Rat} (h:p≤q):decide ((0:Int)<lI p q)=false:=by
 rw [decide_eq_false_iff_not,Mm];exact Rat.not_lt.2 h
theorem lC {q:Rat} (h:CC q): -281474976710656≤q.floor∧q.floor≤281474976710656:=by
 obtain ⟨h1,h2⟩:=h;unfold qp at h1 h2;constructor
 ·rw [Rat.le_floor_iff]
  grind
 ·have h3:=Rat.floor_le q
  have h4:((q.floor:Int):Rat)≤((281474976710656:Int):Rat):=by grind
  exact Rat.intCast_le_intCast.1 h4
theorem wF (l:List Int) (M:Int) (h: ∀x∈l,-M≤x∧x≤M): -((l.length:Int)*M)≤jP l∧jP l≤(l.length:Int)*M:=by
 unfold jP;induction l with
 |nil=>simp
 |cons x l ih=>
  have h1:=h x (List.mem_cons_self ..);have h2:=ih (fun y hy=>h y (List.mem_cons_of_mem _ hy));simp only [List.sum_cons,List.length_cons,Int.natCast_add,Int.add_mul];omega
theorem MB {w:World} {b m x:Nat} {T:TypeId} {A:List Value} (h:aQ w b T (A++gY (m+1))) (hA:A.length=x*3):
 w.cell? ⟨b,x*3,none⟩=some (.bool false)∧w.cell? ⟨b,x*3+1,none⟩=some (.slice none 0 0)∧w.cell? ⟨b,x*3+2,none⟩=some (.slice none 0 0)∧w.frozen? ⟨b,x*3,none⟩=false∧w.frozen? ⟨b,x*3+1,none⟩=false∧w.frozen? ⟨b,x*3+2,none⟩=false:=by
 have e:gY (m+1)= .bool false:: .slice none 0 0:: .slice none 0 0::gY m:=rfl;rw [e]at h;refine ⟨?_,?_,?_,h.frozen _,h.frozen _,h.frozen _⟩
 ·rw [h.cell,List.getElem?_append_right (by omega),hA,Nat.sub_self];rfl
 ·rw [h.cell,List.getElem?_append_right (by omega),hA,Nat.add_sub_cancel_left];rfl
 ·rw [h.cell,List.getElem?_append_right (by omega),hA,Nat.add_sub_cancel_left];rfl
theorem se (fs:List Rat) (n:Nat) (l:List Int) (t:Nat):(iH fs n l t).length=l.length:=by
 induction t with
 |zero=>rfl
 |succ t ih=>unfold iH;rw [List.length_set];exact ih
theorem sj (fs:List Rat) (n j:Nat) (h:j<n):gZ fs n j<n:=by
 unfold gZ;have hl:j<(gO fs n).length:=by simpa [gO]using h
 rw [List.getElem?_eq_getElem hl];exact ((gO fs n)[j]).2
theorem CD (fs:List Rat) (n:Nat) (l:List Int) (t p:Nat) (h: ∀x∈l,-281474976710656≤x∧x≤281474976710656): -281474976710656≤(iH fs n l t)[p]?.getD 0∧(iH fs n l t)[p]?.getD 0≤281474976710656+t:=by
 induction t generalizing p with
 |zero=>
  unfold iH;by_cases hp:p<l.length
  ·rw [List.getElem?_eq_getElem hp]
   have:=h _ (List.getElem_mem hp);simp only [Option.getD_some];omega
  ·rw [List.getElem?_eq_none (by omega)];simp
 |succ t ih=>
  unfold iH;rw [List.getElem?_set];split
  ·split
   ·have:=ih (gZ fs n t);simp only [Option.getD_some];omega
   ·simp;omega
  ·have:=ih p;omega
def ApAt (w:World) (qs:List Rat) (n bw bg pb bo BB:Nat) (_F:Int) (i:Nat) (wr:World):Prop:=
 ∃EB:List fG,EB.length=i∧i≤n∧aQ wr bw 3 (ji ((qs.map Rat.floor).take i++List.replicate (n-i) 0))∧aQ wr bg 119 (ep EB++gY (n-i))∧aQ wr pb 122 [.slice (some ⟨bg,0,none⟩) n n]∧
  aQ wr bo 3 (ji ((List.range i).map (fun k:Nat=>(k:Int))++List.replicate (n-i) 0))∧(∀k (hk:k<EB.length),gA wr EB[k] (qs[k]?.getD 0-(((qs[k]?.getD 0).floor:Int):Rat)) BB)∧Ext w wr∧BB≤wr.heap.size
theorem MC (w:World) (a:Option Addr) (c L:Nat) (rs:List fG) (qs:List Rat) (h:mS w a c rs qs L) (hn:rs.length≤128) (hL:L<100000) (hall: ∀i (hi:i<rs.length),CC (qs[i]'(by rw [h.len];exact hi)))
 (Qe: -72057594037927936≤(dF qs).floor) (hF2:(dF qs).floor≤72057594037927936) (hint:dF qs=(((dF qs).floor:Int):Rat)) (h0n:0<rs.length) (NG:jP (qs.map Rat.floor)≤(dF qs).floor) (xt:(dF qs).floor≤jP (qs.map Rat.floor)+rs.length) (afy:mR (dF qs)<100000000):
 Calls prog 65 #[.slice a rs.length c] w (Kt (iH (dP qs) rs.length (qs.map Rat.floor) ((dF qs).floor-jP (qs.map Rat.floor)).toNat) w):=by
 obtain ⟨out,hout⟩: ∃out,out=iH (dP qs) rs.length (qs.map Rat.floor) ((dF qs).floor-jP (qs.map Rat.floor)).toNat:=⟨_,rfl⟩;rw [←hout];have ZU:=ae hout;clear hout;have hle:=h.le
 have hSb:rs.length*(L+2)+L+1<100000000:=by
  have:=Nat.mul_le_mul hn (show L+2≤100002 by omega);omega
 have dQ:=h.cap;have MT:=h.short;go_enter func65,ntmps65
 go_wp2_with fail
 refine (lW _ _ (by decide) (by decide)).mono ?_;intro e w1 hN;obtain ⟨r1,rfl,hr1,hx1⟩:=hN.oM;have lim:=hr1.oL;clear hN;go_upto_region 4 with fail
 obtain ⟨W,hW,x0,Z0,A0⟩:=aX w1 119 [.bool r1.s,.slice r1.a r1.k r1.c,.slice r1.b r1.j r1.d];rw [←hW];clear hW;have xW:Ext w W:=hx1.trans x0;have Us:ij W r1 qp 2:=(lim.ext x0).mono (by show mR (((281474976710656:Int):Rat))≤2;rw [nI];decide);have hW:=h.ext xW;clear lim hr1;go_wp2_with fail
 go_loopw [23] (fun ii wr=> ∃j:Nat,j≤rs.length∧Ext W wr∧ii= .int .i64 j) (fun ii _=>rs.length-(intOf ii).toNat)
 case atStart=>exact ⟨0,Nat.zero_le _,Ext.refl _,rfl⟩
 case round=>
  obtain ⟨j,hj,hE,rfl⟩:=hrel;by_cases hlt:j<rs.length
  ·have hq:=hW.ext hE
   obtain ⟨b,o,rfl⟩:=h.at (by omega);obtain ⟨b',o',e',c0,c1,c2⟩:=hq.cell j hlt;cases e'
   obtain ⟨n2,MD,g1,g2,gq,VQ,VR⟩:=hq.num j hlt;obtain ⟨n1,m1',f1,f2,fq,fl1,fl2⟩:=Us.ext hE;have Ut:=fun V (hV:Ext wr V)=>lY V rs[j].s _ _ _ _ _ _ _ _ (g1.ext hV) (g2.ext hV) r1.s _ _ _ _ _ _ _ _ (f1.ext hV) (f2.ext hV) (by omega) (by omega) (by omega) (by omega);have QR:=fun V (hV:Ext wr V)=>(Mk V rs[j].s _ _ _ _ _ _ _ _ (g1.ext hV) (g2.ext hV) (by omega) (by omega)).mono (fun _ _ hh=>hh.Ks)
   have Mi:mR (-(qs[j]'(by rw [h.len];exact hlt)))<100000000:=by
    rw [FN];have:=(hq.num j hlt).mR;omega
   have Fy: ∀V a1 c1 b1 d1,Ext wr V→Raw V a1 (len (-(mkRat (aZ rs[j].s n2) MD)).num.natAbs) c1 (-(mkRat (aZ rs[j].s n2) MD)).num.natAbs→Raw V b1 (len (-(mkRat (aZ rs[j].s n2) MD)).den) d1 (-(mkRat (aZ rs[j].s n2) MD)).den→Calls prog 107 #[.agg #[.bool (decide ((-(mkRat (aZ rs[j].s n2) MD)).num<0)),.slice a1 (len (-(mkRat (aZ rs[j].s n2) MD)).num.natAbs) c1,.slice b1 (len (-(mkRat (aZ rs[j].s n2) MD)).den) d1],.agg #[.bool r1.s,.slice r1.a r1.k r1.c,.slice r1.b r1.j r1.d]] V fun e w'=>e= .returned (.int .i64 (lI (-(mkRat (aZ rs[j].s n2) MD)) (mkRat (aZ r1.s n1) m1')))∧Ext V w':=by
    intro V a1 c1 b1 d1 hV hR Mz;rw [←gq]at*;have l1:=lL (-(qs[j]'(by rw [h.len];exact hlt)));have l2:=lM (-(qs[j]'(by rw [h.len];exact hlt)));have:=lY V (decide ((-(qs[j]'(by rw [h.len];exact hlt))).num<0)) a1 b1 _ c1 _ d1 _ _ hR Mz r1.s _ _ _ _ _ _ _ _ (f1.ext hV) (f2.ext hV) (by omega) (by omega) (by omega) (by omega);rw [fQ,Rat.mkRat_self]at this;exact this
   rw [←fq]at Ut Fy;rw [←gq]at Ut QR Fy;have pY:=hall j hlt;have z1:=oU pY.1;have z2:=oU pY.2;generalize lI (qs[j]'(by rw [h.len];exact hlt)) qp=t1 at Ut z1;generalize lI (-(qs[j]'(by rw [h.len];exact hlt))) qp=t2 at Fy z2;generalize decide ((-(qs[j]'(by rw [h.len];exact hlt))).num<0)=sN at QR Fy;generalize (-(qs[j]'(by rw [h.len];exact hlt))).num.natAbs=nN at QR Fy;generalize (-(qs[j]'(by rw [h.len];exact hlt))).den=dN at QR Fy;generalize rs[j]=y at*;clear gq fq pY hq;have sO:=ae Ut;have ZV:=ae QR;have xq:=ae Fy
   clear Ut QR Fy;go_upto_region 7 with fail
   obtain ⟨V,hV,xv,Zv,Av⟩:=aX wr 119 [.bool y.s,.slice y.a y.k y.c,.slice y.b y.j y.d];rw [←hV];clear hV;obtain ⟨m0,m1,m2,-,-,-⟩:=aN Av (Ext.refl _);obtain ⟨k0,k1,k2,-,-,-⟩:=aN A0 (hE.trans xv);clear c0 c1 c2;have sO:=ae (fun U (hU:Ext V U)=>sO.o U (xv.trans hU));have ZV:=ae (fun U (hU:Ext V U)=>ZV.o U (xv.trans hU));have xq:=ae (fun U a c b d (hU:Ext V U)=>xq.o U a c b d (xv.trans hU))
   have tk1:True:=trivial
   go_region_held3 (fun w'=>w'.cell? ⟨w1.heap.size,0,none⟩=some (.bool r1.s)∧w'.cell? ⟨w1.heap.size,1,none⟩=some (.slice r1.a r1.k r1.c)∧w'.cell? ⟨w1.heap.size,2,none⟩=some (.slice r1.b r1.j r1.d)∧w'.cell? ⟨wr.heap.size,0,none⟩=some (.bool y.s)∧w'.cell? ⟨wr.heap.size,1,none⟩=some (.slice y.a y.k y.c)∧w'.cell? ⟨wr.heap.size,2,none⟩=some (.slice y.b y.j y.d)) (first|exact ⟨k0,k1,k2,m0,m1,m2⟩) (first
    |(go_at_call 107;have _t:=tk1;refine (sO.o _ (by exact (Ext.refl _).drew)).mono ?_;rintro e w3 ⟨rfl,x3⟩;clear tk1 _t;have y3:Ext V w3:=(Ext.refl _).drew.trans x3;have k0:=ak ((Ext.refl _).drew.trans x3) k0;have k1:=ak ((Ext.refl _).drew.trans x3) k1;have k2:=ak ((Ext.refl _).drew.trans x3) k2;have m0:=ak ((Ext.refl _).drew.trans x3) m0;have m1:=ak ((Ext.refl _).drew.trans x3) m1;have m2:=ak ((Ext.refl _).drew.trans x3) m2)
    |(go_at_call 108;refine (ZV.o _ (by exact y3)).mono ?_;rintro e w4 ⟨a4,c4,b4,d4,rfl,r4,f4,q4,g4,x4⟩;have y4:Ext V w4:=y3.trans x4;have k0:=ak x4 k0;have k1:=ak x4 k1;have k2:=ak x4 k2;have m0:=ak x4 m0;have m1:=ak x4 m1;have m2:=ak x4 m2)
    |(go_at_call 107;refine (xq.o _ _ _ _ _ (by exact y4) r4 q4).mono ?_;rintro e w5 ⟨rfl,x5⟩;have y5:Ext V w5:=y4.trans x5;have k0:=ak x5 k0;have k1:=ak x5 k1;have k2:=ak x5 k2;have m0:=ak x5 m0;have m1:=ak x5 m1;have m2:=ak x5 m2))
   go_wp2_with fail
   go_roundw
   case rel=>exact ⟨j+1,by omega,(hE.trans xv).trans y5,by go_num⟩
   case measure=>simp [intOf]<;>omega
  ·obtain rfl:j=rs.length:=by omega
   go_wp2_with fail
   refine (Mp _ _ _ _ _ _ (hW.ext hE) hSb).mono ?_;intro e w2 hN;obtain ⟨r2,rfl,hr2,hx2⟩:=hN.oM;clear hN;have hS2:=hr2.oL;have f2:=hr2.fa;have O_:=hr2.fb;clear hr2;obtain ⟨n5,m5,g1,g2,gq,VQ,VR⟩:=hS2;have Kw:=fun V (hV:Ext w2 V)=>(yJ V r2.s _ _ _ _ _ _ _ _ (g1.ext hV) (g2.ext hV) (by omega) (by omega)).mono (fun _ _ hh=>hh.intOf);have jm:=fun V=>(lW V (dF qs).floor (by omega) (by omega)).mono (fun _ _ hh=>hh.Ks)
   have xO: ∀V a c,Raw V a (len (dF qs).floor.natAbs) c (dF qs).floor.natAbs→Calls prog 110 #[.agg #[.bool (decide ((dF qs).floor<0)),.slice a (len (dF qs).floor.natAbs) c]] V fun e w'=>e= .returned (.tuple #[.int .i64 (dF qs).floor,.bool true])∧Ext V w':=by
    intro V a c hR;have:=yH V (decide ((dF qs).floor<0)) a _ c _ hR (by rw [fQ];omega) (by rw [fQ];omega);rw [fQ]at this;exact this
   have PU: ∀V a1 c1 b1 d1,Ext w2 V→Raw V a1 (len (((dF qs).floor:Int):Rat).num.natAbs) c1 (((dF qs).floor:Int):Rat).num.natAbs→Raw V b1 (len (((dF qs).floor:Int):Rat).den) d1 (((dF qs).floor:Int):Rat).den→Calls prog 107 #[.agg #[.bool r2.s,.slice r2.a r2.k r2.c,.slice r2.b r2.j r2.d],.agg #[.bool (decide ((((dF qs).floor:Int):Rat).num<0)),.slice a1 (len (((dF qs).floor:Int):Rat).num.natAbs) c1,.slice b1 (len (((dF qs).floor:Int):Rat).den) d1]] V fun e w'=>e= .returned (.int .i64 (lI (mkRat (aZ r2.s n5) m5) (((dF qs).floor:Int):Rat)))∧Ext V w':=by
    intro V a1 c1 b1 d1 hV hR Mz;have l1:=lL (((dF qs).floor:Int):Rat);have l2:=lM (((dF qs).floor:Int):Rat);have l3:=nI (dF qs).floor;have l4:=gz (z:=(dF qs).floor) (by omega) (by omega);have:=lY V r2.s _ _ _ _ _ _ _ _ (g1.ext hV) (g2.ext hV) (decide ((((dF qs).floor:Int):Rat).num<0)) a1 b1 _ c1 _ d1 _ _ hR Mz (by omega) (by omega) (by omega) (by omega);rw [fQ,Rat.mkRat_self]at this;exact this
   rw [←gq]at Kw PU;have hcz:((lI (dF qs) (((dF qs).floor:Int):Rat)) !=0)=false:=by rw [bne_eq_false_iff_eq];exact Ac.2 hint
   generalize lI (dF qs) (((dF qs).floor:Int):Rat)=zc at PU hcz;generalize decide ((((dF qs).floor:Int):Rat).num<0)=sM at jm PU;generalize (((dF qs).floor:Int):Rat).num.natAbs=nM at jm PU;generalize (((dF qs).floor:Int):Rat).den=dM at jm PU;generalize decide ((dF qs).floor<0)=sF at Kw xO;generalize (dF qs).floor.natAbs=nF at Kw xO;obtain ⟨F,hF⟩: ∃F,F=(dF qs).floor:=⟨_,rfl⟩;rw [←hF]at jm xO Qe hF2;have VZ:=ae Kw;have qH:=ae jm;have ME:=ae xO;have HCm:=ae PU;have HF:=ae hF
   clear Kw jm xO PU gq hF;go_upto_region 11 with fail
   obtain ⟨W3,hW3,x3,Z3,A3⟩:=aX w2 119 [.bool r2.s,.slice r2.a r2.k r2.c,.slice r2.b r2.j r2.d];rw [←hW3];clear hW3;obtain ⟨k0,k1,k2,-,-,-⟩:=aN A3 (Ext.refl _);go_wp2_with fail
   refine (VZ.o _ x3).mono ?_;rintro e w4 ⟨a4,c4,rfl,r4,f4,x4⟩;go_wp2_with fail
   refine (ME.o _ _ _ r4).mono ?_;rintro e w5 ⟨rfl,x5⟩;clear k0 k1 k2;have y5:Ext W3 w5:=x4.trans x5;obtain ⟨k0,k1,k2,-,-,-⟩:=aN A3 y5;go_wp2_with fail
   go_region_held3 (fun w'=>w'.cell? ⟨w2.heap.size,0,none⟩=some (.bool r2.s)∧w'.cell? ⟨w2.heap.size,1,none⟩=some (.slice r2.a r2.k r2.c)∧w'.cell? ⟨w2.heap.size,2,none⟩=some (.slice r2.b r2.j r2.d)) (first|exact ⟨k0,k1,k2⟩) (first
    |(go_at_call 106;refine (qH.o _).mono ?_;rintro e w6 ⟨a6,c6,b6,d6,rfl,r6,f6,q6,g6,x6⟩;have y6:Ext W3 w6:=(y5.drew).trans x6;have k0:=ak ((Ext.refl _).drew.trans x6) k0;have k1:=ak ((Ext.refl _).drew.trans x6) k1;have k2:=ak ((Ext.refl _).drew.trans x6) k2)
    |(go_at_call 107;refine (HCm.o _ _ _ _ _ (by exact x3.trans y6) r6 q6).mono ?_;rintro e w7 ⟨rfl,x7⟩;have y7:Ext W3 w7:=y6.trans x7;have k0:=ak x7 k0;have k1:=ak x7 k1;have k2:=ak x7 k2))
   have xE:Ext w w7:=((xW.trans hE).trans hx2).trans (x3.trans y7);clear k0 k1 k2 VZ qH ME HCm;go_upto_region 15 with(at_make;refine bO _ rfl _ _ 22 rfl 3 (.int .i64 0) 8 underlying22 Tryz.info_int rfl _ _ rs.length rfl rfl (by go_num) (by go_num) (by omega) (by omega) ?_;intro w8 S8 g_ hz8)
   go_upto_region 16 with(at_make;refine r_ _ rfl _ _ 122 rfl 119 (.agg oN.toArray) 56 underlying122 Tryz.info_rat rfl _ _ rs.length rfl rfl (by go_num) (by go_num) (by omega) (by omega) ?_;intro w9 Ng jC VV)
   obtain ⟨Wp,hWp,xp,Zp,Ap⟩:=aX w9 122 [.slice (some ⟨w8.heap.size,0,none⟩) rs.length rs.length];rw [←hWp];clear hWp;go_upto_region 17 with(at_make;refine bO _ rfl _ _ 22 rfl 3 (.int .i64 0) 8 underlying22 Tryz.info_int rfl _ _ rs.length rfl rfl (by go_num) (by go_num) (by omega) (by omega) ?_;intro qO Uu dI Uv)
   have ZW:Ext w qO:=(((xE.trans g_).trans jC).trans xp).trans dI;have z8:=hz8.o;have z9:=VV.o;have zp:=Zp.o;have KW:=Uv.o;have sw7:=xE.size;obtain ⟨bw,ZY⟩: ∃bw,bw=w7.heap.size:=⟨_,rfl⟩;obtain ⟨bg,hbg⟩: ∃bg,bg=w8.heap.size:=⟨_,rfl⟩;obtain ⟨pb,Ur⟩: ∃pb,pb=w9.heap.size:=⟨_,rfl⟩;obtain ⟨bo,O6⟩: ∃bo,bo=Wp.heap.size:=⟨_,rfl⟩;obtain ⟨BB,hBB⟩: ∃BB,BB=qO.heap.size:=⟨_,rfl⟩;have o1:w.heap.size≤bw:=by omega
   have o2:bw<bg:=by omega
   have o3:bg<pb:=by omega
   have o4:pb<bo:=by omega
   have o5:bo<BB:=by omega
   have aW:aQ qO bw 3 (ji (([]:List Int)++List.replicate rs.length 0)):=by
    have h5:=S8.o;rw [wC,←ZY]at h5;exact ((h5.ext jC).ext xp).ext dI
   have aG:aQ qO bg 119 (ep []++gY rs.length):=by
    have h5:=Ng.o;rw [←hbg]at h5;exact (h5.ext xp).ext dI
   have aP:aQ qO pb 122 [.slice (some ⟨bg,0,none⟩) rs.length rs.length]:=by
    rw [Ur,hbg];exact Ap.ext dI
   have aO:aQ qO bo 3 (ji (([]:List Int)++List.replicate rs.length 0)):=by
    have h5:=Uu.o;rw [wC,←O6]at h5;exact h5
   rw [←ZY,←hbg,←Ur,←O6];have EN:=ae hBB;clear S8 Ng Uu Ap hz8 VV Zp Uv z8 z9 zp KW sw7 g_ jC xp dI ZY hbg Ur O6 hBB hE hx2 x3 y7 y6 y5 x7 x6 r6 q6 f6 g6 r4 f4 x4 x5 A3 hW Us A0 x0 xW f2 O_ g1 g2;have SI:Hid (ApAt w qs rs.length bw bg pb bo BB F 0 qO):=⟨[],rfl,Nat.zero_le _,aW,aG,aP,aO,fun k hk=>absurd hk (by simp),ZW,by rw [EN.o];exact Nat.le_refl _⟩;go_wp2_with fail
   go_loopw [8,63] (fun s8 ii wr=> ∃i:Nat,ApAt w qs rs.length bw bg pb bo BB F i wr∧s8= .int .i64 (F-jP ((qs.map Rat.floor).take i))∧ii= .int .i64 i) (fun _ ii _=>rs.length-(intOf ii).toNat)
   case atStart=>exact ⟨0,SI.o,by show _=Value.int .i64 (F-0);rw [Int.sub_zero],rfl⟩
   case round=>
    obtain ⟨i,hAt,rfl,rfl⟩:=hrel;obtain ⟨EB,hpl,hi,aW,aG,aP,aO,Hk,KZ,hBw⟩:=hAt;by_cases hlt:i<rs.length
    ·have jE:i<qs.length:=by rw [h.len];exact hlt
     obtain ⟨b,o,rfl⟩:=h.at (by omega);obtain ⟨b',o',e',c0,c1,c2⟩:=(h.ext KZ).cell i hlt;cases e'
     obtain ⟨n2,MD,g1,g2,gq,VQ,VR⟩:=h.num i hlt;have hqi:qs[i]?.getD 0=qs[i]'jE:=by rw [List.getElem?_eq_getElem jE];rfl
     have pY:=hall i hlt;obtain ⟨fl1,fl2⟩:=lC pY;have Kw:=fun V (hV:Ext w V)=>(yJ V rs[i].s _ _ _ _ _ _ _ _ (g1.ext hV) (g2.ext hV) (by omega) (by omega)).mono (fun _ _ hh=>hh.intOf);rw [←gq]at Kw;have Mi:mR (qs[i]'jE)<100000000:=by have:=(h.num i hlt).mR;omega
     have jm:=fun V=>(lW V (qs[i]'jE).floor (by omega) (by omega)).mono (fun _ _ hh=>hh.Ks)
     have xO: ∀V a c,Raw V a (len (qs[i]'jE).floor.natAbs) c (qs[i]'jE).floor.natAbs→Calls prog 110 #[.agg #[.bool (decide ((qs[i]'jE).floor<0)),.slice a (len (qs[i]'jE).floor.natAbs) c]] V fun e w'=>e= .returned (.tuple #[.int .i64 (qs[i]'jE).floor,.bool true])∧Ext V w':=by
      intro V a c hR;have:=yH V (decide ((qs[i]'jE).floor<0)) a _ c _ hR (by rw [fQ];omega) (by rw [fQ];omega);rw [fQ]at this;exact this
     have hSub: ∀V a1 c1 b1 d1,Ext w V→Raw V a1 (len (((qs[i]'jE).floor:Int):Rat).num.natAbs) c1 (((qs[i]'jE).floor:Int):Rat).num.natAbs→Raw V b1 (len (((qs[i]'jE).floor:Int):Rat).den) d1 (((qs[i]'jE).floor:Int):Rat).den→Calls prog 112 #[.agg #[.bool rs[i].s,.slice rs[i].a rs[i].k rs[i].c,.slice rs[i].b rs[i].j rs[i].d],.agg #[.bool (decide ((((qs[i]'jE).floor:Int):Rat).num<0)),.slice a1 (len (((qs[i]'jE).floor:Int):Rat).num.natAbs) c1,.slice b1 (len (((qs[i]'jE).floor:Int):Rat).den) d1]] V (br (qs[i]?.getD 0-(((qs[i]?.getD 0).floor:Int):Rat)) V):=by
      intro V a1 c1 b1 d1 hV hR Mz;have l1:=lL (((qs[i]'jE).floor:Int):Rat);have l2:=lM (((qs[i]'jE).floor:Int):Rat);have l3:=nI (qs[i]'jE).floor;have l4:=gz (z:=(qs[i]'jE).floor) (by omega) (by omega);have:=Mn V rs[i].s _ _ _ _ _ _ _ _ (g1.ext hV) (g2.ext hV) (decide ((((qs[i]'jE).floor:Int):Rat).num<0)) a1 b1 _ c1 _ d1 _ _ hR Mz (by omega) (by omega) (by omega) (by omega);rw [fQ,Rat.mkRat_self,←gq]at this;rw [hqi];exact this
     have hfs:(qs.map Rat.floor)[i]'(by simpa using jE)=(qs[i]'jE).floor:=by simp
     have N3:(qs.map Rat.floor).take (i+1)=(qs.map Rat.floor).take i++ [(qs[i]'jE).floor]:=by
      rw [List.take_succ_eq_append_getElem (by simpa using jE),hfs]
     have NM:jP ((qs.map Rat.floor).take (i+1))=jP ((qs.map Rat.floor).take i)+(qs[i]'jE).floor:=by
      rw [N3];unfold jP;simp
     have hib:=wF ((qs.map Rat.floor).take i) 281474976710656 (by
      intro x hx;obtain ⟨q,hq,rfl⟩:=List.mem_map.1 (List.mem_of_mem_take hx);obtain ⟨k,hk,rfl⟩:=List.getElem_of_mem hq;exact lC (hall k (by rw [←h.len];exact hk)))
     rw [List.length_take,List.length_map,Nat.min_eq_left (by omega)]at hib;generalize decide ((((qs[i]'jE).floor:Int):Rat).num<0)=sM at jm hSub;generalize (((qs[i]'jE).floor:Int):Rat).num.natAbs=nM at jm hSub;generalize (((qs[i]'jE).floor:Int):Rat).den=dM at jm hSub;generalize decide ((qs[i]'jE).floor<0)=sF at Kw xO;generalize (qs[i]'jE).floor.natAbs=nF at Kw xO;generalize (qs[i]'jE).floor=z at*;have VZ:=ae Kw;have qH:=ae jm;have ME:=ae xO;have HSub:=ae hSub;have Qg:=ae N3;have HIS:=ae NM
     clear Kw jm xO hSub N3 NM hfs gq g1 g2 pY hqi;generalize rs[i]=y at*;have b0:(0:Int)≤(i:Int):=by omega
     have b1:(i:Int)<(rs.length:Int):=by omega
     go_upto_region 20 with fail
     obtain ⟨V0,G5,xv,Zv,Av⟩:=aX wr 119 [.bool y.s,.slice y.a y.k y.c,.slice y.b y.j y.d];rw [←G5];clear G5 c0 c1 c2;obtain ⟨m0,m1,m2,-,-,-⟩:=aN Av (Ext.refl _);go_wp2_with fail
     refine (VZ.o _ (KZ.trans xv)).mono ?_;rintro e YP ⟨Zm,c11,rfl,r11,f11,M_⟩;go_wp2_with fail
     refine (ME.o _ _ _ r11).mono ?_;rintro e PW ⟨rfl,x12⟩;clear m0 m1 m2 r11 f11;have v12:Ext wr PW:=(xv.trans M_).trans x12;obtain ⟨m,hm⟩: ∃m,rs.length-i=m+1:=⟨rs.length-i-1,by omega⟩;have Nx:rs.length-(i+1)=m:=by omega
     rw [hm]at aW aG aO;have eW:((qs.map Rat.floor).take i).length=i:=by rw [List.length_take,List.length_map];omega
     have cW:PW.cell? ⟨bw,i,none⟩=some (.int .i64 0):=by
      rw [(aW.ext v12).cell,ml _ _ (by simp;omega)];congr 2
      rw [List.getElem_append_right (by omega)];simp
     have fW:=(aW.ext v12).frozen i
     have B1:aQ (PW.setCell ⟨bw,i,none⟩ (.int .i64 z)) bw 3 (ji ((qs.map Rat.floor).take (i+1)++List.replicate m 0)):=by
      have h5:=(aW.ext v12).set i (.int .i64 z);have h6:=yP ((qs.map Rat.floor).take i) m z;rw [eW]at h6;rw [h6,←Qg.o]at h5;exact h5
     have B2:=(aG.ext v12).other ⟨bw,i,none⟩ (.int .i64 z) (by simp only;omega);have B3:=(aP.ext v12).other ⟨bw,i,none⟩ (.int .i64 z) (by simp only;omega);have B4:=(aO.ext v12).other ⟨bw,i,none⟩ (.int .i64 z) (by simp only;omega);have B5:=(Av.ext (M_.trans x12)).other ⟨bw,i,none⟩ (.int .i64 z) (by simp only;omega);have B6:=fun k hk=>((Hk k hk).ext v12).setCell ⟨bw,i,none⟩ (.int .i64 z) (by simp only;omega);have B7:Ext w (PW.setCell ⟨bw,i,none⟩ (.int .i64 z)):=(KZ.trans v12).setCell (by simp only;omega) _
     have B8:BB≤(PW.setCell ⟨bw,i,none⟩ (.int .i64 z)).heap.size:=by
      have:=v12.size;simp [World.setCell];omega
     have s4:(PW.setCell ⟨bw,i,none⟩ (.int .i64 z)).cell? ⟨bw,i,none⟩=some (.int .i64 z):=by
      rw [B1.cell,ml _ _ (by simp;omega)];congr 2
      rw [List.getElem_append_left (by simp;omega)];have h7:=Qg.o;simp [h7,eW]
     go_upto_region 21 with fail
     clear cW fW aW aG aP aO Hk;generalize PW.setCell ⟨bw,i,none⟩ (.int .i64 z)=V1 at*;have s0:=B3.cell 0;obtain ⟨s1,s2,s3,-,-,-⟩:=aN B5 (Ext.refl _);simp at s0;have hpc:(ep EB).length=i*3:=by rw [gU,hpl]
     have HPC:=ae hpc;clear hpc
     go_region_held3 (fun w'=>w'.cell? ⟨pb,0,none⟩=some (.slice (some ⟨bg,0,none⟩) rs.length rs.length)∧w'.cell? ⟨wr.heap.size,0,none⟩=some (.bool y.s)∧w'.cell? ⟨wr.heap.size,1,none⟩=some (.slice y.a y.k y.c)∧w'.cell? ⟨wr.heap.size,2,none⟩=some (.slice y.b y.j y.d)∧w'.cell? ⟨bw,i,none⟩=some (.int .i64 z)) (first|exact ⟨s0,s1,s2,s3,s4⟩|exact ⟨jQ s0 (by simp only;omega),jQ s1 (by simp only;omega),jQ s2 (by simp only;omega),jQ s3 (by simp only;omega),jQ s4 (by simp only;omega)⟩) (first
      |(go_at_call 106;refine (qH.o _).mono ?_;rintro e w13 ⟨a13,c13,XP,d13,rfl,r13,f13,YK,g13,QS⟩;have v13:Ext V1 w13:=(Ext.refl _).drew.trans QS;have s0:=ak ((Ext.refl _).drew.trans QS) s0;have s1:=ak ((Ext.refl _).drew.trans QS) s1;have s2:=ak ((Ext.refl _).drew.trans QS) s2;have s3:=ak ((Ext.refl _).drew.trans QS) s3;have s4:=ak ((Ext.refl _).drew.trans QS) s4)
      |(go_at_call 112;refine (HSub.o _ _ _ _ _ (by exact B7.trans v13) r13 YK).mono ?_;intro e Uw hN;obtain ⟨fY,rfl,Ux,QT⟩:=hN.oM;clear hN;have v14:Ext V1 Uw:=v13.trans QT;have s0:=ak QT s0;have s1:=ak QT s1;have s2:=ak QT s2;have s3:=ak QT s3;have s4:=ak QT s4;obtain ⟨p0,p1,p2,p3,p4,p5⟩:=MB (B2.ext v14) HPC.o))
     go_upto_region 22 with fail
     have afG:=v14.size;have C1:=((((B1.ext v14).other ⟨bg,i*3,none⟩ (.bool fY.s) (by simp only;omega)).other ⟨bg,i*3+1,none⟩ (.slice fY.a fY.k fY.c) (by simp only;omega)).other ⟨bg,i*3+2,none⟩ (.slice fY.b fY.j fY.d) (by simp only;omega))
     have C2:aQ (((Uw.setCell ⟨bg,i*3,none⟩ (.bool fY.s)).setCell ⟨bg,i*3+1,none⟩ (.slice fY.a fY.k fY.c)).setCell ⟨bg,i*3+2,none⟩ (.slice fY.b fY.j fY.d)) bg 119 (ep (EB++ [fY])++gY m):=by
      have h5:=(((B2.ext v14).set (i*3) (.bool fY.s)).set (i*3+1) (.slice fY.a fY.k fY.c)).set (i*3+2) (.slice fY.b fY.j fY.d);have h6:=Uq (ep EB) m (.bool fY.s) (.slice fY.a fY.k fY.c) (.slice fY.b fY.j fY.d);rw [HPC.o]at h6;rw [h6]at h5;rw [xN];exact h5
     have C3:=((((B3.ext v14).other ⟨bg,i*3,none⟩ (.bool fY.s) (by simp only;omega)).other ⟨bg,i*3+1,none⟩ (.slice fY.a fY.k fY.c) (by simp only;omega)).other ⟨bg,i*3+2,none⟩ (.slice fY.b fY.j fY.d) (by simp only;omega));have C4:=((((B4.ext v14).other ⟨bg,i*3,none⟩ (.bool fY.s) (by simp only;omega)).other ⟨bg,i*3+1,none⟩ (.slice fY.a fY.k fY.c) (by simp only;omega)).other ⟨bg,i*3+2,none⟩ (.slice fY.b fY.j fY.d) (by simp only;omega));have C6:=fun k hk=>((((B6 k hk).ext v14).setCell ⟨bg,i*3,none⟩ (.bool fY.s) (by simp only;omega)).setCell ⟨bg,i*3+1,none⟩ (.slice fY.a fY.k fY.c) (by simp only;omega)).setCell ⟨bg,i*3+2,none⟩ (.slice fY.b fY.j fY.d) (by simp only;omega);have C6':=(((Ux.mono (show BB≤w13.heap.size by have:=v13.size;omega)).setCell ⟨bg,i*3,none⟩ (.bool fY.s) (by simp only;omega)).setCell ⟨bg,i*3+1,none⟩ (.slice fY.a fY.k fY.c) (by simp only;omega)).setCell ⟨bg,i*3+2,none⟩ (.slice fY.b fY.j fY.d) (by simp only;omega);have C7:Ext w (((Uw.setCell ⟨bg,i*3,none⟩ (.bool fY.s)).setCell ⟨bg,i*3+1,none⟩ (.slice fY.a fY.k fY.c)).setCell ⟨bg,i*3+2,none⟩ (.slice fY.b fY.j fY.d)):=((((B7.trans v14).setCell (by simp only;omega) _).setCell (by simp only;omega) _).setCell (by simp only;omega) _);have C8:BB≤(((Uw.setCell ⟨bg,i*3,none⟩ (.bool fY.s)).setCell ⟨bg,i*3+1,none⟩ (.slice fY.a fY.k fY.c)).setCell ⟨bg,i*3+2,none⟩ (.slice fY.b fY.j fY.d)).heap.size:=by simp [World.setCell];omega
     have C9:=jQ (b:=bg) (x:=i*3) (v0:= .bool fY.s) (v1:= .slice fY.a fY.k fY.c) (v2:= .slice fY.b fY.j fY.d) s4 (by simp only;omega);clear s0 s1 s2 s3 s4 p0 p1 p2 p3 p4 p5 B1 B2 B3 B4 B5 B6 Ux;generalize ((Uw.setCell ⟨bg,i*3,none⟩ (.bool fY.s)).setCell ⟨bg,i*3+1,none⟩ (.slice fY.a fY.k fY.c)).setCell ⟨bg,i*3+2,none⟩ (.slice fY.b fY.j fY.d)=V2 at*;have eO:((List.range i).map (fun k:Nat=>(k:Int))).length=i:=by simp
     have cO:V2.cell? ⟨bo,i,none⟩=some (.int .i64 0):=by
      rw [C4.cell,ml _ _ (by simp)];congr 2
      rw [List.getElem_append_right (by simp)];simp
     have fO:=C4.frozen i
     have D4:aQ (V2.setCell ⟨bo,i,none⟩ (.int .i64 (i:Nat))) bo 3 (ji ((List.range (i+1)).map (fun k:Nat=>(k:Int))++List.replicate m 0)):=by
      have h5:=C4.set i (.int .i64 (i:Nat));have h6:=yP ((List.range i).map (fun k:Nat=>(k:Int))) m (i:Int);rw [eO]at h6;rw [h6]at h5;rw [List.range_succ,List.map_append];exact h5
     have D1:=C1.other ⟨bo,i,none⟩ (.int .i64 (i:Nat)) (by simp only;omega);have D2:=C2.other ⟨bo,i,none⟩ (.int .i64 (i:Nat)) (by simp only;omega);have D3:=C3.other ⟨bo,i,none⟩ (.int .i64 (i:Nat)) (by simp only;omega);have D6:=fun k hk=>(C6 k hk).setCell ⟨bo,i,none⟩ (.int .i64 (i:Nat)) (by simp only;omega);have D6':=C6'.setCell ⟨bo,i,none⟩ (.int .i64 (i:Nat)) (by simp only;omega);have D7:Ext w (V2.setCell ⟨bo,i,none⟩ (.int .i64 (i:Nat))):=C7.setCell (by simp only;omega) _;have D8:BB≤(V2.setCell ⟨bo,i,none⟩ (.int .i64 (i:Nat))).heap.size:=by simp [World.setCell];exact C8
     have D9:(V2.setCell ⟨bo,i,none⟩ (.int .i64 (i:Nat))).cell? ⟨bw,i,none⟩=some (.int .i64 z):=by
      rw [World.cell?_setCell_other _ _ _ _ (by intro e;simp only [Addr.mk.injEq]at e;omega)];exact C9
     have HD:Hid (ApAt w qs rs.length bw bg pb bo BB F (i+1) (V2.setCell ⟨bo,i,none⟩ (.int .i64 (i:Nat)))):=by
      refine ⟨EB++ [fY],by simp [hpl],by omega,by rw [Nx];exact D1,by rw [Nx];exact D2,D3,by rw [Nx];exact D4,?_,D7,D8⟩;intro k hk;by_cases UJ:k<EB.length
      ·rw [List.getElem_append_left UJ];exact D6 k UJ
      ·have NR:k=i:=by simp at hk;omega
       subst NR;rw [List.getElem_append_right (by omega)];simp only [hpl,Nat.sub_self,List.getElem_cons_zero];exact D6'
     go_upto_region 23 with fail
     generalize V2.setCell ⟨bo,i,none⟩ (.int .i64 (i:Nat))=V3 at*;clear C1 C2 C3 C4 C6 C6' D1 D2 D3 D4 D6 D6';go_wp2_with fail
     refine ⟨⟨i+1,HD.o,congrArg (Value.int .i64) ?_,by go_num⟩,by simp [intOf]<;>omega⟩;rw [HIS.o];have:(i:Int)*281474976710656≤128*281474976710656:=Int.mul_le_mul_of_nonneg_right (by omega) (by decide);first|omega|(unfold wrap64;omega)
    ·obtain rfl:i=rs.length:=by omega
     rw [Nat.sub_self]at aW aG aO;rw [List.take_of_length_le (by rw [List.length_map,h.len];exact Nat.le_refl _)]at aW⊢;have Uy:(dP qs).length=rs.length:=by unfold dP;rw [List.length_map,h.len]
     have hRt:mS wr (some ⟨bg,0,none⟩) rs.length EB (dP qs) (L+10):=by
      refine ⟨by rw [Uy,hpl],by omega,by omega,by omega,fun k hk=>⟨bg,0,rfl,?_,?_,?_⟩,fun k hk=> ?_⟩
      ·rw [Nat.zero_add,aG.cell,List.getElem?_append_left (by rw [gU];omega)];exact gN EB k 0 hk (by decide)
      ·rw [Nat.zero_add,aG.cell,List.getElem?_append_left (by rw [gU];omega)];exact gN EB k 1 hk (by decide)
      ·rw [Nat.zero_add,aG.cell,List.getElem?_append_left (by rw [gU];omega)];exact gN EB k 2 hk (by decide)
      ·have h5:=(Hk k hk).oL
       have NN:k<qs.length:=by rw [h.len];omega
       have e5:qs[k]?.getD 0=qs[k]'NN:=by rw [List.getElem?_eq_getElem NN];rfl
       rw [e5]at h5;have e6:(dP qs)[k]'(by omega)=qs[k]'NN-(((qs[k]'NN).floor:Int):Rat):=by unfold dP;simp
       rw [e6];refine h5.mono ?_;have l1:=Mo (qs[k]'NN) (((qs[k]'NN).floor:Int):Rat);have l2:=nI (qs[k]'NN).floor;obtain ⟨l3,l4⟩:=lC (hall k (by omega));have l5:=gz (z:=(qs[k]'NN).floor) (by omega) (by omega);have l6:=(h.num k (by omega)).mR;omega
     have NP:=MA wr pb bg bo rs.length (L+10) rs.length EB (dP qs) (by have:=aP.cell 0;simpa using this) hRt hpl (by omega) h0n (by omega) (by omega) (by omega)
      (fun k hk=>⟨fun x e=>by have:=(Hk k hk).fa x e;omega,fun x e=>by have:=(Hk k hk).fb x e;omega⟩)
      (fun k hk=>⟨by
        rw [aO.cell,ml _ _ (by simp;exact hk)];simp,aO.frozen k⟩)
     have HS:=ae NP;clear NP hRt;obtain ⟨M,hM⟩: ∃M:Nat,F-jP (qs.map Rat.floor)=(M:Int):=⟨(F-jP (qs.map Rat.floor)).toNat,by have:=HF.o;omega⟩;have hMn:M≤rs.length:=by have:=HF.o;omega
     rw [hM];have HMM:Hid (M=((dF qs).floor-jP (qs.map Rat.floor)).toNat):=(show _=_ by have:=HF.o;omega);clear hM;go_wp2_with fail
     refine HS.o.mono ?_;rintro e w15 ⟨rfl,MF⟩;have afI:=MF.size
     have A1:aQ w15 bw 3 (ji (iH (dP qs) rs.length (qs.map Rat.floor) 0)):=by
      unfold aQ;rw [MF.agree bw (by omega) (by omega)];have h5:=aW;rw [List.replicate_zero,List.append_nil]at h5;exact h5
     have X15:Ext w w15:=⟨⟨MF.os.trans KZ.below.os,MF.tape.trans KZ.below.tape,MF.output.trans KZ.below.output,by have:=KZ.size;omega,fun k hk=>(MF.agree k (by have:=KZ.size;omega) (by omega)).trans (KZ.below.block k hk)⟩,Nat.le_trans KZ.drawn MF.drawn⟩;have cO:=MF.cell;have CO:=ae cO;clear cO aW aG aP aO Hk HS MF;go_wp2_with fail
     go_loopw [105] (fun ii wr=> ∃t:Nat,t≤M∧Hid (aQ wr bw 3 (ji (iH (dP qs) rs.length (qs.map Rat.floor) t)))∧Hid (∀j,j<rs.length→wr.cell? ⟨bo,j,none⟩=some (.int .i64 (gZ (dP qs) rs.length j:Nat)))∧Ext w wr∧ii= .int .i64 t) (fun ii _=>M-(intOf ii).toNat)
     case atStart=>exact ⟨0,Nat.zero_le _,A1,CO,X15,rfl⟩
     case round=>
      obtain ⟨t,ht,hA,hC,hX,rfl⟩:=hrel;by_cases JQ:t<M
      ·have c1:=hC.o t (by omega)
       have hp:=sj (dP qs) rs.length t (by omega);have hl:=se (dP qs) rs.length (qs.map Rat.floor) t;rw [List.length_map,h.len]at hl
       have c2:wr.cell? ⟨bw,gZ (dP qs) rs.length t,none⟩=some (.int .i64 ((iH (dP qs) rs.length (qs.map Rat.floor) t)[gZ (dP qs) rs.length t]?.getD 0)):=by
        rw [hA.o.cell,ml _ _ (by omega),List.getElem?_eq_getElem (by omega)];rfl
       have c3:=hA.o.frozen (gZ (dP qs) rs.length t)
       have hbd:=CD (dP qs) rs.length (qs.map Rat.floor) t (gZ (dP qs) rs.length t) (by
        intro x hx;obtain ⟨q,hq,rfl⟩:=List.mem_map.1 hx;obtain ⟨k,hk,rfl⟩:=List.getElem_of_mem hq;exact lC (hall k (by rw [←h.len];exact hk)))
       have D1:aQ (wr.setCell ⟨bw,gZ (dP qs) rs.length t,none⟩ (.int .i64 ((iH (dP qs) rs.length (qs.map Rat.floor) t)[gZ (dP qs) rs.length t]?.getD 0+1))) bw 3 (ji (iH (dP qs) rs.length (qs.map Rat.floor) (t+1))):=by
        have h5:=hA.o.set (gZ (dP qs) rs.length t) (.int .i64 ((iH (dP qs) rs.length (qs.map Rat.floor) t)[gZ (dP qs) rs.length t]?.getD 0+1));unfold ji at h5;rw [←List.map_set]at h5;exact h5
       have D2: ∀j,j<rs.length→(wr.setCell ⟨bw,gZ (dP qs) rs.length t,none⟩ (.int .i64 ((iH (dP qs) rs.length (qs.map Rat.floor) t)[gZ (dP qs) rs.length t]?.getD 0+1))).cell? ⟨bo,j,none⟩=some (.int .i64 (gZ (dP qs) rs.length j:Nat)):=by
        intro j hj;rw [World.cell?_setCell_other _ _ _ _ (by intro e;simp only [Addr.mk.injEq]at e;omega)];exact hC.o j hj
       have Un:=ae D1;have Uo:=ae D2
       clear D1 D2;generalize (iH (dP qs) rs.length (qs.map Rat.floor) t)[gZ (dP qs) rs.length t]?.getD 0=v at*;generalize gZ (dP qs) rs.length t=p at*;go_wp2_with fail
       go_roundw
       case rel=>exact ⟨t+1,by omega,Un,Uo,hX.setCell (by simp only;omega) _,by go_num⟩
       case measure=>simp [intOf]<;>omega
      ·obtain rfl:t=M:=by omega
       have hl:=se (dP qs) rs.length (qs.map Rat.floor) t;rw [List.length_map,h.len]at hl;have HL:=ae hl;clear hl
       go_wp2_with fail
       go_ret2
       have pA:=ZU.o;rw [←HMM.o]at pA;rw [pA];exact ⟨bw,by rw [HL.o];rfl,o1,hA.o,hX⟩
theorem Ky {l:List Rat} {i:Nat} (h:i<l.length):jP ((l.map Rat.floor).take (i+1))=jP ((l.map Rat.floor).take i)+l[i].floor:=by
 rw [List.take_succ_eq_append_getElem (by simpa using h)];unfold jP;simp
theorem CE (l:List Rat): ∀i,i≤l.length→((jP ((l.map Rat.floor).take i):Int):Rat)≤dF (l.take i)∧dF (l.take i)≤((jP ((l.map Rat.floor).take i)+i:Int):Rat):=by
 intro i;induction i with
 |zero=>
  intro _;rw [oT];have:jP ((l.map Rat.floor).take 0)=0:=rfl;rw [this];exact ⟨by simp,by simp⟩
 |succ i ih=>
  intro hi;obtain ⟨h1,h2⟩:=ih (by omega);rw [py (by omega),Ky (by omega)];have h3:=Rat.floor_le l[i];have h4:=Rat.lt_floor_add_one l[i];generalize dF (l.take i)=s at*;generalize jP ((l.map Rat.floor).take i)=z at*;generalize l[i]=q at*;generalize q.floor=f at*;constructor
  ·rw [Rat.intCast_add];grind
  ·have e:((z+f+((i+1:Nat):Int):Int):Rat)=((z+(i:Int):Int):Rat)+((f:Int):Rat)+1:=by
    push_cast;grind
   rw [e];grind
theorem FU (w:World) (a:Option Addr) (c L:Nat) (rs:List fG) (qs:List Rat) (h:mS w a c rs qs L) (hn:rs.length≤128) (h0:0<rs.length) (hL:L<100000) (hall: ∀i (hi:i<rs.length),CC (qs[i]'(by rw [h.len];exact hi))) (hint:dF qs=(((dF qs).floor:Int):Rat)):
 Calls prog 65 #[.slice a rs.length c] w (Kt (yQ qs) w):=by
 have hb:=CE qs qs.length (Nat.le_refl _);rw [List.take_of_length_le (by simp),List.take_length]at hb;have NG:jP (qs.map Rat.floor)≤(dF qs).floor:=by rw [Rat.le_floor_iff];exact hb.1
 have xt:(dF qs).floor≤jP (qs.map Rat.floor)+rs.length:=by
  rw [←h.len];have h2:=hb.2;rw [hint]at h2;exact Rat.intCast_le_intCast.1 h2
 have hib:=wF (qs.map Rat.floor) 281474976710656 (by
  intro x hx;obtain ⟨q,hq,rfl⟩:=List.mem_map.1 hx;obtain ⟨k,hk,rfl⟩:=List.getElem_of_mem hq;exact lC (hall k (by rw [←h.len];exact hk)))
 rw [List.length_map,h.len]at hib;have NW:(rs.length:Int)*281474976710656≤128*281474976710656:=Int.mul_le_mul_of_nonneg_right (by omega) (by decide)
 have hsz:mR (dF qs)<100000000:=by
  have h5:=Ku qs (L+1) (fun i hi=>by have:=(h.num i (by rw [←h.len];exact hi)).mR;omega) qs.length (Nat.le_refl _);rw [List.take_length,h.len]at h5;have:=Nat.mul_le_mul hn (show L+1+1≤100001 by omega);omega
 have:=MC w a c L rs qs h hn hL hall (by omega) (by omega) hint h0 NG xt hsz;rw [←h.len]at this⊢;exact this
theorem Hl (fs:List Rat) (n p:Nat) (hp:p<n): ∃j,j<n∧gZ fs n j=p:=by
 have hm:(⟨p,hp⟩:Fin n)∈gO fs n:=(nK fs n).mem_iff.2 (List.mem_finRange _);obtain ⟨j,hj,he⟩:=List.getElem_of_mem hm;exact ⟨j,by rw [←lB fs n];exact hj,by rw [rZ fs n j hj,he]⟩
theorem EC (fs:List Rat) (f:Rat) (h: ∀i,i<3→fs[i]?.getD 0=f):gZ fs 3 0=0∧gZ fs 3 1=1∧gZ fs 3 2=2:=by
 have hm: ∀j k,j<k→k<3→gZ fs 3 j<gZ fs 3 k:=by
  intro j k hj hk;have h1:=yS fs 3 j k hj hk;unfold lK at h1;rw [h _ (sj fs 3 j (by omega)),h _ (sj fs 3 k hk)]at h1;rcases h1 with h1|⟨_,h1⟩
  ·exact absurd h1 Rat.lt_irrefl
  ·exact h1
 have a:=hm 0 1 (by omega) (by omega);have b:=hm 1 2 (by omega) (by omega);have c:=sj fs 3 2 (by omega);omega
theorem CF {q:Rat} {z:Int} (h1:(z:Rat)≤q) (h2:q<(z:Rat)+1):q.floor=z:=by
 have a:=Rat.le_floor_iff.2 h1
 have b: ¬(z+1≤q.floor):=by
  rw [Rat.le_floor_iff,Rat.not_le,Rat.intCast_add];exact h2
 omega
theorem wH (x:Rat):dF [x,x,x]=3*x:=by
 simp only [dF,List.foldl];grind
theorem Hm (x:Rat) (T z:Int) (hx:3*x=(T:Rat)) (h1:(z:Rat)≤x) (h2:x<(z:Rat)+1):yQ [x,x,x]=iH (dP [x,x,x]) 3 [z,z,z] (T-3*z).toNat∧gZ (dP [x,x,x]) 3 0=0∧gZ (dP [x,x,x]) 3 1=1:=by
 have hf:=CF h1 h2
 obtain ⟨h0,h1,h2⟩:=EC (dP [x,x,x]) (x-(x.floor:Int)) (by
  intro i hi;rcases (show i=0∨i=1∨i=2 by omega)with rfl|rfl|rfl<;>simp [dP])
 refine ⟨?_,h0,h1⟩;unfold yQ;rw [wH,hx,Rat.floor_intCast];simp only [List.length_cons,List.length_nil,Nat.reduceAdd,List.map_cons,List.map_nil,hf];rw [show jP [z,z,z]=3*z by simp [jP];omega]
theorem xP (w:World) (a b:Option Addr) (c c':Nat) (l:List Int) (hA:od w a l) (hB:od w b l) (hl:l.length<1000000):
 Calls prog 76 #[.slice a l.length c,.slice b l.length c'] w fun e w'=>e= .returned (.bool true)∧Ext w w':=by
 obtain ⟨b1,o1,rfl,hA⟩:=hA;obtain ⟨b2,o2,rfl,hB⟩:=hB;go_enter func76,ntmps76
 go_wp2_with fail
 go_loopw [5] (fun i wr=> ∃j:Nat,j≤l.length∧i= .int .i64 j∧Quiet w wr) (fun i _=>l.length-(intOf i).toNat)
 case atStart=>exact ⟨0,Nat.zero_le _,rfl,Quiet.refl _⟩
 case round=>
  obtain ⟨j,hj,rfl,hq⟩:=hrel;by_cases h0:j<l.length
  ·have hc:=(hq.ext.cell (cG (hA j h0))).trans (hA j h0)
   have hc':=(hq.ext.cell (cG (hB j h0))).trans (hB j h0);have g1:(j:Int)<(l.length:Int):=by omega
   have g2:(0:Int)≤(j:Int):=by omega
   go_wp2
   go_quiet (fail)
   go_wp2
   exact ⟨⟨j+1,by omega,rfl,hq.drewN _⟩,by simp only [intOf];omega⟩
  ·have hj':j=l.length:=by omega
   subst hj';go_wp2
   go_ret;exact ⟨rfl,hq.ext⟩
theorem pR (w:World) (a b:Option Addr) (c c':Nat) (l:List Int) (hA:od w a l) (hB:od w b l) (hl:l.length<1000000):
 Calls prog 29 #[.slice a l.length c,.slice b l.length c'] w fun e w'=>e= .returned (.bool true)∧Ext w w':=by
 go_enter func29,ntmps29
 go_wp2_with fail
 refine (xP _ _ _ _ _ _ hA hB hl).mono ?_;rintro e w1 ⟨rfl,hX⟩;go_wp2_with fail
 go_ret;exact ⟨rfl,hX⟩
open Go.ChangeShapes Go.WideShapes Go.ChangeAt
theorem ED (fs:List Rat) (n:Nat) (hn:0<n) (h: ∀i,i<n→fs[i]?.getD 0≤fs[0]?.getD 0):gZ fs n 0=0:=by
 obtain ⟨k,hk,he⟩:=Hl fs n 0 hn;rcases Nat.eq_zero_or_pos k with rfl|hp
 ·exact he
 ·have h1:=yS fs n 0 k hp hk
  rw [he]at h1;have h2:=h _ (sj fs n 0 hn);unfold lK at h1;rcases h1 with h1|⟨_,h1⟩
  ·exact absurd h1 (Rat.not_lt.2 h2)
  ·omega
theorem Kz:yQ [mkRat 1 2,mkRat 1 2,((-1:Int):Rat)]= [1,0,-1]:=by
 have e2:mkRat 1 2=(1:Rat)/2:=by rw [Rat.mkRat_eq_div];rfl
 have e1:((-1:Int):Rat)= -1:=rfl;have z0:((0:Int):Rat)=0:=rfl;have f1:(mkRat 1 2).floor=0:=CF (by rw [e2,z0];grind) (by rw [e2,z0];grind);have f2:(((-1:Int):Rat)).floor= -1:=Rat.floor_intCast _
 have hs:dF [mkRat 1 2,mkRat 1 2,((-1:Int):Rat)]=((0:Int):Rat):=by
  rw [e2,e1];simp only [dF,List.foldl]
  have:((0:Int):Rat)=0:=rfl;grind
 have hz:gZ (dP [mkRat 1 2,mkRat 1 2,((-1:Int):Rat)]) 3 0=0:=by
  refine ED _ 3 (by decide) ?_;intro i hi;have z0:((0:Int):Rat)=0:=rfl;rcases (show i=0∨i=1∨i=2 by omega)with rfl|rfl|rfl
  ·exact Rat.le_refl
  ·simp [dP]
  ·simp only [dP,List.map_cons,List.map_nil,List.getElem?_cons_succ,List.getElem?_cons_zero,Option.getD_some,f1,f2]
   rw [e2,e1,z0];grind
 unfold yQ;rw [hs,Rat.floor_intCast];simp only [List.length_cons,List.length_nil,Nat.reduceAdd,List.map_cons,List.map_nil,f1,f2];rw [show((0:Int)-jP [0,0,-1]).toNat=1 by decide];simp only [iH];rw [hz];rfl
theorem Hn:yQ [mkRat 1 3,mkRat 1 3,mkRat 1 3]= [1,0,0]:=by
 have e3:mkRat 1 3=(1:Rat)/3:=by rw [Rat.mkRat_eq_div];rfl
 obtain ⟨h1,h2,h3⟩:=Hm (mkRat 1 3) 1 0 (by rw [e3,show((1:Int):Rat)=1 from rfl];grind) (by rw [e3,show((0:Int):Rat)=0 from rfl];grind) (by rw [e3,show((0:Int):Rat)=0 from rfl];grind);rw [h1];simp [iH,h2]
theorem yU {w:World} {r1 r2 r3:fG} {q1 q2 q3:Rat} {L b:Nat} {T:TypeId} (h1:ij w r1 q1 L) (h2:ij w r2 q2 L) (h3:ij w r3 q3 L) (hA:aQ w b T (ep [r1,r2,r3])):
 mS w (some ⟨b,0,none⟩) 3 [r1,r2,r3] [q1,q2,q3] L:=by
 refine ⟨rfl,by simp,by decide,by simp,?_,?_⟩
 ·intro i hi
  refine ⟨b,0,rfl,?_,?_,?_⟩
  ·rw [Nat.zero_add,hA.cell];exact gN _ i 0 hi (by decide)
  ·rw [Nat.zero_add,hA.cell];exact gN _ i 1 hi (by decide)
  ·rw [Nat.zero_add,hA.cell];exact gN _ i 2 hi (by decide)
 ·intro i hi
  have hi':i<3:=hi;rcases (show i=0∨i=1∨i=2 by omega)with rfl|rfl|rfl
  ·exact h1
  ·exact h2
  ·exact h3
theorem qu {q:Rat} (h1:q≤1000000) (h2: -1000000≤q):CC q:=by
 unfold CC qp;have:((281474976710656:Int):Rat)=281474976710656:=rfl;constructor<;>grind
theorem ub (w:World):Calls prog 22 #[] w fun e w'=>e= .returned (.bool true)∧Ext w w':=by
 have hH: ∀V,Calls prog 66 #[.int .i64 1,.int .i64 2] V (br (mkRat 1 2) V):=fun V=>NK V 1 2 (by decide) (by decide) (by decide);have hT: ∀V,Calls prog 66 #[.int .i64 1,.int .i64 3] V (br (mkRat 1 3) V):=fun V=>NK V 1 3 (by decide) (by decide) (by decide);have hM: ∀V,Calls prog 67 #[.int .i64 (-1)] V (br ((-1:Int):Rat) V):=fun V=>Ey V (-1) (by decide) (by decide);have e2:mkRat 1 2=(1:Rat)/2:=by rw [Rat.mkRat_eq_div];rfl
 have e3:mkRat 1 3=(1:Rat)/3:=by rw [Rat.mkRat_eq_div];rfl
 have e1:((-1:Int):Rat)= -1:=rfl
 have l2:mR (mkRat 1 2)≤2:=by have:=oW 1 2;have h1:len (1:Int).natAbs≤2:=by decide
                              have h2:len 2≤2:=by decide
                              omega
 have l3:mR (mkRat 1 3)≤2:=by have:=oW 1 3;have h1:len (1:Int).natAbs≤2:=by decide
                              have h2:len 3≤2:=by decide
                              omega
 have l1:mR ((-1:Int):Rat)≤2:=by rw [nI];decide
 have k2:CC (mkRat 1 2):=qu (by rw [e2];grind) (by rw [e2];grind);have k3:CC (mkRat 1 3):=qu (by rw [e3];grind) (by rw [e3];grind);have k1:CC ((-1:Int):Rat):=qu (by rw [e1];grind) (by rw [e1];grind)
 have hs:dF [mkRat 1 2,mkRat 1 2,((-1:Int):Rat)]=((0:Int):Rat):=by
  rw [e2,e1];simp only [dF,List.foldl]
  have:((0:Int):Rat)=0:=rfl;grind
 have hs3:dF [mkRat 1 3,mkRat 1 3,mkRat 1 3]=((1:Int):Rat):=by rw [wH,e3,show((1:Int):Rat)=1 from rfl];grind
 have o1:=Kz;have o2:=Hn;generalize mkRat 1 2=p at*;generalize mkRat 1 3=q at*;generalize ((-1:Int):Rat)=m at*;have HH:=ae hH;have HT:=ae hT;have HM:=ae hM;have HS:=ae hs;have Qv:=ae hs3
 have O1:=ae o1;have O2:=ae o2
 clear hH hT hM hs hs3 o1 o2 e1 e2 e3;go_enter func22,ntmps22
 go_wp2_with fail
 refine (HH.o _).mono ?_;intro e w1 hN;obtain ⟨r1,rfl,hr1,x1⟩:=hN.oM;clear hN
 go_wp2_with fail
 refine (HH.o _).mono ?_;intro e w2 hN;obtain ⟨r2,rfl,hr2,x2⟩:=hN.oM;clear hN
 go_wp2_with fail
 refine (HM.o _).mono ?_;intro e w3 hN;obtain ⟨r3,rfl,hr3,x3⟩:=hN.oM;clear hN
 go_wp2_with fail
 obtain ⟨V,hV,xv,Zv,Av⟩:=aX w3 119 (ep [r1,r2,r3]);have hV':V=w3.alloc (.cells #[.bool r1.s,.slice r1.a r1.k r1.c,.slice r1.b r1.j r1.d,.bool r2.s,.slice r2.a r2.k r2.c,.slice r2.b r2.j r2.d,.bool r3.s,.slice r3.a r3.k r3.c,.slice r3.b r3.j r3.d] 119):=hV;rw [←hV'];clear hV hV';have Uz:=yU ((hr1.oL.mono l2).ext ((x2.trans x3).trans xv)) ((hr2.oL.mono l2).ext (x3.trans xv)) ((hr3.oL.mono l1).ext xv) Av
 have hap:=FU V _ 3 2 _ _ Uz (by simp) (by simp) (by decide) (by
  intro i hi;have hi':i<3:=hi;rcases (show i=0∨i=1∨i=2 by omega)with rfl|rfl|rfl
  ·exact k2
  ·exact k2
  ·exact k1) (by rw [HS.o,Rat.floor_intCast])
 rw [O1.o]at hap;have ZZ:=ae hap;clear hap Uz;refine ZZ.o.mono ?_;rintro e w4 ⟨p4,rfl,Vm,NH,x4⟩;go_wp2_with fail
 refine (HT.o _).mono ?_;intro e w5 hN;obtain ⟨r5,rfl,JY,x5⟩:=hN.oM;clear hN
 go_wp2_with fail
 refine (HT.o _).mono ?_;intro e w6 hN;obtain ⟨r6,rfl,NB,x6⟩:=hN.oM;clear hN
 go_wp2_with fail
 refine (HT.o _).mono ?_;intro e w7 hN;obtain ⟨r7,rfl,Pr,x7⟩:=hN.oM;clear hN
 go_wp2_with fail
 obtain ⟨U,hU,xu,Zu,Au⟩:=aX w7 119 (ep [r5,r6,r7]);have hU':U=w7.alloc (.cells #[.bool r5.s,.slice r5.a r5.k r5.c,.slice r5.b r5.j r5.d,.bool r6.s,.slice r6.a r6.k r6.c,.slice r6.b r6.j r6.d,.bool r7.s,.slice r7.a r7.k r7.c,.slice r7.b r7.j r7.d] 119):=hU;rw [←hU'];clear hU hU';have Uz:=yU ((JY.oL.mono l3).ext ((x6.trans x7).trans xu)) ((NB.oL.mono l3).ext (x7.trans xu)) ((Pr.oL.mono l3).ext xu) Au
 have hap:=FU U _ 3 2 _ _ Uz (by simp) (by simp) (by decide) (by
  intro i hi;have hi':i<3:=hi;rcases (show i=0∨i=1∨i=2 by omega)with rfl|rfl|rfl<;>exact k3) (by rw [Qv.o,Rat.floor_intCast])
 rw [O2.o]at hap;have ZZ:=ae hap;clear hap Uz;refine ZZ.o.mono ?_;rintro e w8 ⟨p8,rfl,hp8,hA8,x8⟩;have Z7:=NH.ext ((((x5.trans x6).trans x7).trans xu).trans x8);have xw:Ext w w8:=((((((((x1.trans x2).trans x3).trans xv).trans x4).trans x5).trans x6).trans x7).trans xu).trans x8;clear NH x1 x2 x3 xv x4 x5 x6 x7 xu x8;go_wp2_with fail
 have y5:=(Ext.refl w8).alloc (.cells #[.int .i64 1,.int .i64 0,.int .i64 (-1)] 3);refine (pR _ _ _ _ _ [1,0,-1] (rX (Z7.ext y5)) (rX (aQ.alloc w8 3 (ji [1,0,-1]))) (by decide)).mono ?_;rintro e w9 ⟨rfl,y9⟩;go_wp2_with fail
 have y10:=(Ext.refl w9).alloc (.cells #[.int .i64 1,.int .i64 0,.int .i64 0] 3);refine (pR _ _ _ _ _ [1,0,0] (rX (hA8.ext ((y5.trans y9).trans y10))) (rX (aQ.alloc w9 3 (ji [1,0,0]))) (by decide)).mono ?_;rintro e YP ⟨rfl,y11⟩;go_wp2_with fail
 go_ret;exact ⟨rfl,(((xw.trans y5).trans y9).trans y10).trans y11⟩
end Go.Proofs.YtkpngkdgphojlaaGreat
