/- Texts of the proof. -/
import Derived.Test.YtfokdakioeoniaaGreatCj23
set_option linter.all false
set_option maxHeartbeats 1000000
set_option maxRecDepth 100000
namespace Go.Proofs.YtfokdakioeoniaaGreat
open Go.Proofs.Tryz
open Go.RowKit
theorem FW {m:Nat}: ∀(rows:List (List Value)),(∀r∈rows,r.length=m)-> ∀(i j:Nat) (hi:i<rows.length),j<m->rows.flatten[i*m+j]?=(rows[i])[j]?
 | [],_,i,_,hi,_=>absurd hi (Nat.not_lt_zero _)
 |r::rows,h,0,j,_,hj=>by
  have hr:=h r aX;rw [List.flatten_cons,Nat.zero_mul,Nat.zero_add,List.getElem?_append_left ae];rfl
 |r::rows,h,i+1,j,hi,hj=>by
  have hr:=h r aX;have h2:=FW rows (λx hx=>h x (by simp [hx])) i j (by simpa using hi) hj;rw [List.flatten_cons,List.getElem?_append_right (by rw [hr,Nat.succ_mul];omega),hr,show(i+1)*m+j-m=i*m+j by rw [Nat.succ_mul];omega,h2];rfl
theorem xm {m:Nat}: ∀(rows:List (List Value)),(∀r∈rows,r.length=m)->rows.flatten.length=rows.length*m
 | [],_=>aX
 |r::rows,h=>by rw [List.flatten_cons,List.length_append,xm rows (λx hx=>h x (by simp [hx])),h r aX,List.length_cons,Nat.succ_mul];omega
structure cj (w:World) (B:Nat) (e:TypeId) (m:Nat) (v:Value) (rows:List (List Value)):Prop where
 own:w.ownsRow B e m v rows.length rows.flatten
 len: ∀r∈rows,r.length=m
theorem cj.nil (w:World) (B:Nat) (e:TypeId) (m:Nat):cj w B e m (.slice none 0 0) []:=⟨⟨aX,.inl ⟨rfl,rfl⟩⟩,λ_ h=>by cases h⟩
theorem cj.ext {w w':World} {B:Nat} {e:TypeId} {m:Nat} {v:Value} {rows:List (List Value)} (h:cj w B e m v rows) (x:Ext w w'):cj w' B e m v rows:=⟨fg h.own x,h.len⟩
theorem cj.snoc {w w':World} {B:Nat} {e:TypeId} {m:Nat} {v v':Value} {rows:List (List Value)} {r:List Value} (h:cj w B e m v rows) (hr:r.length=m) (hn:w'.ownsRow B e m v' (rows.length+1) (rows.flatten++r)):cj w' B e m v' (rows++ [r]):=
 ⟨by rw [List.length_append,List.flatten_append];simpa using hn,λx hx=>by rcases List.mem_append.1 hx with h1|h1;exact h.len x h1;rw [List.mem_singleton]at h1;rw [h1];exact hr⟩
theorem cj.recs {w:World} {B:Nat} {e:TypeId} {m:Nat} {v:Value} {rows:List (List Value)} (h:cj w B e m v rows) (hm:0<m): ∃a c,v= .slice a rows.length c/\di w m a c rows/\Fr B a:=by
 have hfl:=xm rows h.len;rcases h.own.2 with⟨rfl,h0⟩|⟨g,cap,cur,rfl,hb,hg,hn,eI,hcs,zg⟩
 .refine ⟨none,0,?_,⟨ae,ae,λi hi=>ae⟩,Fr.none _⟩
  rw [h0]
 .refine ⟨some ⟨g,0,none⟩,cap,rfl,⟨hn,by unfold maxLen at eI;omega,λi hi=>⟨g,0,rfl,λj hj=> ?_⟩⟩,Fr.some hb⟩
  have hlen:=h.len rows[i] (List.getElem_mem hi);have hj':j<m:=ae;have h2:=FW rows h.len i j hi hj';rw [<-zg,List.getElem?_take]at h2
  have hlt:i*m+j<rows.length*m:=by
   have:(i+1)*m<=rows.length*m:=Nat.mul_le_mul_right _ hi;rw [Nat.succ_mul]at this;omega
  rw [if_pos hlt,List.getElem?_eq_getElem hj]at h2;simp only [World.cell?,hg,Nat.zero_add];simpa using h2
theorem Tryz.info_string:(Tryz.prog.info? 9).map (λi=>(i.zero,i.size,i.bytes))=some (some (.string ByteArray.empty),1,16):=aw
abbrev l9 (w:World) (a:Option Addr) (c:Nat) (l:List ByteArray):Prop:=di w 1 a c (l.map λs=> [.string s])
theorem l9.cell {w:World} {a:Option Addr} {c:Nat} {l:List ByteArray} (h:l9 w a c l) (i:Nat) (hi:i<l.length): ∃b o,a=some ⟨b,o,none⟩/\w.cell? ⟨b,o+i,none⟩=some (.string l[i]):=by
 obtain ⟨b,o,ha,hc⟩:=di.cell h i (by simpa using hi);refine ⟨b,o,ha,?_⟩;have:=hc 0 aX;simpa using this
def fo (c:aq) (kind:Int):List ByteArray:=if kind=1 then c.ar.map iQ.name else if kind=2 then c.lines.map cX.name else if kind=3 then c.ay.map cw.name else if kind=4 then c.stores.map cI.name else if kind=5 then c.bF.map gY.name else if kind=6 then c.outs.map ee.name else []
theorem tH (c:aq):fo c 1=c.ar.map iQ.name:=by unfold fo;rw [if_pos rfl]
theorem tI (c:aq):fo c 2=c.lines.map cX.name:=by unfold fo;rw [if_neg ai,if_pos rfl]
theorem tJ (c:aq):fo c 3=c.ay.map cw.name:=by unfold fo;rw [if_neg ai,if_neg ai,if_pos rfl]
theorem rh (c:aq):fo c 4=c.stores.map cI.name:=by unfold fo;rw [if_neg ai,if_neg ai,if_neg ai,if_pos rfl]
theorem uV (c:aq):fo c 5=c.bF.map gY.name:=by unfold fo;rw [if_neg ai,if_neg ai,if_neg ai,if_neg ai,if_pos rfl]
theorem kI (c:aq):fo c 6=c.outs.map ee.name:=by unfold fo;rw [if_neg ai,if_neg ai,if_neg ai,if_neg ai,if_neg ai,if_pos rfl]
structure OD {α:Type} (W0:World) (l:List α) (f:α->ByteArray) (i:Nat) (v:Value) (w:World):Prop where
 own:cj w W0.heap.size 9 1 v ((l.take i).map λx=> [.string (f x)])
 ext:Ext W0 w
theorem OD.push {α:Type} {W0 w:World} {l:List α} {f:α->ByteArray} {i:Nat} {v:Value} (h:OD W0 l f i v w) (hlt:i<l.length) (hn:l.length<=1000000) {ops:Array Oper} {rest:List Oper} {o:Oper} {a:Act} {Q:Exit->Act->World->Prop} (s x:Operand) (hgd:o.guard=none) (ho:o.op= .call {callee:= .builtin .append,args:= #[s,x],argTypes:= #[232,232]})
 (hs:a.eval s=v) (hx:a.eval x= .slice (some ⟨w.heap.size,0,none⟩) 1 1) (k: ∀v' w',OD W0 l f (i+1) v' w'->wpList prog ops Q rest (a.put o.dst v') w'):wpList prog ops Q (o::rest) a (w.alloc (.cells #[.string (f l[i])] 9)):=by
 have hl:((l.take i).map λx=> [Value.string (f x)]).length=i:=by simp;omega
 have hw:=h.own.own;rw [hl]at hw;refine fC _ hgd s x 232 ho W0.heap.size 9 (.string ByteArray.empty) 1 16 underlying232 Tryz.info_string rfl ai v i _ hs (fg hw (ah.alloc _)) (some ⟨w.heap.size,0,none⟩) 1 1 [.string (f l[i])] hx rfl (λ_=>⟨_,rfl,kY w 9 [.string (f l[i])]⟩) (λu hu=>by rw [List.mem_singleton]at hu;subst hu;rfl) (λe=>by cases e) ae ai (Nat.le_trans h.ext.size ((Ext.refl w).alloc _).size) ?_;intro v1 w5 ho he hb hz hv;have yO:=h.own.snoc (w':=w5) (v':=v1) (r:= [.string (f l[i])]) rfl (by rw [hl];exact ho.o);refine k v1 w5 ⟨?_,he.o W0 (h.ext.alloc _) cG⟩;rw [List.take_succ_eq_append_getElem hlt,List.map_append];exact yO
theorem OD.done {α:Type} {W0 w:World} {l:List α} {f:α->ByteArray} {v:Value} (h:OD W0 l f l.length v w): ∃a cap,v= .slice a l.length cap/\l9 w a cap (l.map f)/\Fr W0.heap.size a:=by
 obtain ⟨a,cap,e,hS,hF⟩:=h.own.recs ai;rw [List.take_length]at hS e;exact ⟨a,cap,by rw [e,List.length_map],by unfold l9;rw [List.map_map];exact hS,hF⟩
theorem yr (w0 V:World) (c:aq) (hV:Ext w0 V) (hc:bK w0 c) (hn:c.ar.length<=1000000):
 Calls prog 203 #[.agg (C8 c),i64 1] V λe w'=> ∃a cap,e= .returned (.slice a c.ar.length cap)/\l9 w' a cap (c.ar.map iQ.name)/\Ext V w'/\Fr V.heap.size a:=by
 try unfold C8
 have hr:=hc.ar;have hle:=hr.le;have eI:=hr.cap
 rw [List.length_map]at hle;have HR:=af hr;have HV:=af hV;have HN:=af hn
 clear hc hr hV hn;go_enter func203,ntmps203
 go_upto_region 1 with fail
 obtain ⟨W,hW,x0,Z0,A0⟩:=bS V 30 c.cells;rw [show V.alloc (.cells (C8 c) 30)=W from hW.symm];clear hW;have HA:=af A0;have HX:=af x0
 obtain ⟨B,hB⟩: ∃B,B=V.heap.size:=⟨_,rfl⟩;rw [<-hB]at HA⊢;clear A0 x0 Z0 hB;go_wp2
 go_loopw [5,6] (λv ii wr=> ∃i:Nat,i<=c.ar.length/\OD W c.ar iQ.name i v wr/\ii= .int .i64 i) (λ_ ii _=>c.ar.length-(intOf ii).toNat)
 case atStart=>exact ⟨0,bm,⟨cj.nil _ _ _ _,ah⟩,rfl⟩
 case round=>
  obtain ⟨i,hi,hO,rfl⟩:=hrel;have HO:=af hO;obtain ⟨-,-,k2,k3,k4,k5,k6,k7⟩:=aq.at (HA.o.ext hO.ext);clear hO;by_cases hlt:i<c.ar.length
  .obtain ⟨b,o,ha,c0,-⟩:=((HR.o.ext HV.o).ext (HX.o.trans HO.o.ext)).ar i hlt
   rw [ha]at k2;have mn:(0:Int)<=(i:Int):=ae;have mq:(i:Int)<(c.ar.length:Int):=ae;clear ha k3 k4 k5 k6 k7;go_wp2_with (at_builtin;refine HO.o.push hlt HN.o (.tmp 22) (.tmp 29) rfl rfl rfl rfl ?_;intro v1 w5 uq)
   exact ⟨⟨i+1,ae,uq,bq⟩,bz⟩
  .obtain rfl:i=c.ar.length:=ae
   obtain ⟨a,cap,rfl,hS,kV⟩:=HO.o.done;have HS:=af hS;have qm:=af kV
   clear hS kV;go_wp2
   go_ret;exact ⟨a,cap,rfl,HS.o,HX.o.trans HO.o.ext,qm.o.mono HX.o.size⟩
theorem yt (w0 V:World) (c:aq) (hV:Ext w0 V) (hc:bK w0 c) (hn:c.lines.length<=1000000):
 Calls prog 203 #[.agg (C8 c),i64 2] V λe w'=> ∃a cap,e= .returned (.slice a c.lines.length cap)/\l9 w' a cap (c.lines.map cX.name)/\Ext V w'/\Fr V.heap.size a:=by
 try unfold C8
 have hr:=hc.lines;have hle:=hr.le;have eI:=hr.cap
 rw [List.length_map]at hle;have HR:=af hr;have HV:=af hV;have HN:=af hn
 clear hc hr hV hn;go_enter func203,ntmps203
 go_upto_region 1 with fail
 obtain ⟨W,hW,x0,Z0,A0⟩:=bS V 30 c.cells;rw [show V.alloc (.cells (C8 c) 30)=W from hW.symm];clear hW;have HA:=af A0;have HX:=af x0
 obtain ⟨B,hB⟩: ∃B,B=V.heap.size:=⟨_,rfl⟩;rw [<-hB]at HA⊢;clear A0 x0 Z0 hB;go_wp2
 go_loopw [5,7] (λv ii wr=> ∃i:Nat,i<=c.lines.length/\OD W c.lines cX.name i v wr/\ii= .int .i64 i) (λ_ ii _=>c.lines.length-(intOf ii).toNat)
 case atStart=>exact ⟨0,bm,⟨cj.nil _ _ _ _,ah⟩,rfl⟩
 case round=>
  obtain ⟨i,hi,hO,rfl⟩:=hrel;have HO:=af hO;obtain ⟨-,-,k2,k3,k4,k5,k6,k7⟩:=aq.at (HA.o.ext hO.ext);clear hO;by_cases hlt:i<c.lines.length
  .obtain ⟨b,o,ha,c0,-⟩:=((HR.o.ext HV.o).ext (HX.o.trans HO.o.ext)).lines i hlt
   rw [ha]at k3;have mn:(0:Int)<=(i:Int):=ae;have mq:(i:Int)<(c.lines.length:Int):=ae;clear ha k2 k4 k5 k6 k7;go_wp2_with (at_builtin;refine HO.o.push hlt HN.o (.tmp 40) (.tmp 47) rfl rfl rfl rfl ?_;intro v1 w5 uq)
   exact ⟨⟨i+1,ae,uq,bq⟩,bz⟩
  .obtain rfl:i=c.lines.length:=ae
   obtain ⟨a,cap,rfl,hS,kV⟩:=HO.o.done;have HS:=af hS;have qm:=af kV
   clear hS kV;go_wp2
   go_ret;exact ⟨a,cap,rfl,HS.o,HX.o.trans HO.o.ext,qm.o.mono HX.o.size⟩
theorem yv (w0 V:World) (c:aq) (hV:Ext w0 V) (hc:bK w0 c) (hn:c.ay.length<=1000000):
 Calls prog 203 #[.agg (C8 c),i64 3] V λe w'=> ∃a cap,e= .returned (.slice a c.ay.length cap)/\l9 w' a cap (c.ay.map cw.name)/\Ext V w'/\Fr V.heap.size a:=by
 try unfold C8
 have hr:=hc.ay;have hle:=hr.le;have eI:=hr.cap
 rw [List.length_map]at hle;have HR:=af hr;have HV:=af hV;have HN:=af hn
 clear hc hr hV hn;go_enter func203,ntmps203
 go_upto_region 1 with fail
 obtain ⟨W,hW,x0,Z0,A0⟩:=bS V 30 c.cells;rw [show V.alloc (.cells (C8 c) 30)=W from hW.symm];clear hW;have HA:=af A0;have HX:=af x0
 obtain ⟨B,hB⟩: ∃B,B=V.heap.size:=⟨_,rfl⟩;rw [<-hB]at HA⊢;clear A0 x0 Z0 hB;go_wp2
 go_loopw [5,8] (λv ii wr=> ∃i:Nat,i<=c.ay.length/\OD W c.ay cw.name i v wr/\ii= .int .i64 i) (λ_ ii _=>c.ay.length-(intOf ii).toNat)
 case atStart=>exact ⟨0,bm,⟨cj.nil _ _ _ _,ah⟩,rfl⟩
 case round=>
  obtain ⟨i,hi,hO,rfl⟩:=hrel;have HO:=af hO;obtain ⟨-,-,k2,k3,k4,k5,k6,k7⟩:=aq.at (HA.o.ext hO.ext);clear hO;by_cases hlt:i<c.ay.length
  .obtain ⟨b,o,ha,c0,-⟩:=((HR.o.ext HV.o).ext (HX.o.trans HO.o.ext)).ay i hlt
   rw [ha]at k4;have mn:(0:Int)<=(i:Int):=ae;have mq:(i:Int)<(c.ay.length:Int):=ae;clear ha k2 k3 k5 k6 k7;go_wp2_with (at_builtin;refine HO.o.push hlt HN.o (.tmp 58) (.tmp 65) rfl rfl rfl rfl ?_;intro v1 w5 uq)
   exact ⟨⟨i+1,ae,uq,bq⟩,bz⟩
  .obtain rfl:i=c.ay.length:=ae
   obtain ⟨a,cap,rfl,hS,kV⟩:=HO.o.done;have HS:=af hS;have qm:=af kV
   clear hS kV;go_wp2
   go_ret;exact ⟨a,cap,rfl,HS.o,HX.o.trans HO.o.ext,qm.o.mono HX.o.size⟩
theorem vW (w0 V:World) (c:aq) (hV:Ext w0 V) (hc:bK w0 c) (hn:c.stores.length<=1000000):
 Calls prog 203 #[.agg (C8 c),i64 4] V λe w'=> ∃a cap,e= .returned (.slice a c.stores.length cap)/\l9 w' a cap (c.stores.map cI.name)/\Ext V w'/\Fr V.heap.size a:=by
 try unfold C8
 have hr:=hc.stores;have hle:=hr.le;have eI:=hr.cap
 rw [List.length_map]at hle;have HR:=af hr;have HV:=af hV;have HN:=af hn
 clear hc hr hV hn;go_enter func203,ntmps203
 go_upto_region 1 with fail
 obtain ⟨W,hW,x0,Z0,A0⟩:=bS V 30 c.cells;rw [show V.alloc (.cells (C8 c) 30)=W from hW.symm];clear hW;have HA:=af A0;have HX:=af x0
 obtain ⟨B,hB⟩: ∃B,B=V.heap.size:=⟨_,rfl⟩;rw [<-hB]at HA⊢;clear A0 x0 Z0 hB;go_wp2
 go_loopw [5,9] (λv ii wr=> ∃i:Nat,i<=c.stores.length/\OD W c.stores cI.name i v wr/\ii= .int .i64 i) (λ_ ii _=>c.stores.length-(intOf ii).toNat)
 case atStart=>exact ⟨0,bm,⟨cj.nil _ _ _ _,ah⟩,rfl⟩
 case round=>
  obtain ⟨i,hi,hO,rfl⟩:=hrel;have HO:=af hO;obtain ⟨-,-,k2,k3,k4,k5,k6,k7⟩:=aq.at (HA.o.ext hO.ext);clear hO;by_cases hlt:i<c.stores.length
  .obtain ⟨b,o,ha,c0,-⟩:=((HR.o.ext HV.o).ext (HX.o.trans HO.o.ext)).stores i hlt
   rw [ha]at k5;have mn:(0:Int)<=(i:Int):=ae;have mq:(i:Int)<(c.stores.length:Int):=ae;clear ha k2 k3 k4 k6 k7;go_wp2_with (at_builtin;refine HO.o.push hlt HN.o (.tmp 76) (.tmp 83) rfl rfl rfl rfl ?_;intro v1 w5 uq)
   exact ⟨⟨i+1,ae,uq,bq⟩,bz⟩
  .obtain rfl:i=c.stores.length:=ae
   obtain ⟨a,cap,rfl,hS,kV⟩:=HO.o.done;have HS:=af hS;have qm:=af kV
   clear hS kV;go_wp2
   go_ret;exact ⟨a,cap,rfl,HS.o,HX.o.trans HO.o.ext,qm.o.mono HX.o.size⟩
theorem zU (w0 V:World) (c:aq) (hV:Ext w0 V) (hc:bK w0 c) (hn:c.bF.length<=1000000):
 Calls prog 203 #[.agg (C8 c),i64 5] V λe w'=> ∃a cap,e= .returned (.slice a c.bF.length cap)/\l9 w' a cap (c.bF.map gY.name)/\Ext V w'/\Fr V.heap.size a:=by
 try unfold C8
 have hr:=hc.bF;have hle:=hr.le;have eI:=hr.cap
 rw [List.length_map]at hle;have HR:=af hr;have HV:=af hV;have HN:=af hn
 clear hc hr hV hn;go_enter func203,ntmps203
 go_upto_region 1 with fail
 obtain ⟨W,hW,x0,Z0,A0⟩:=bS V 30 c.cells;rw [show V.alloc (.cells (C8 c) 30)=W from hW.symm];clear hW;have HA:=af A0;have HX:=af x0
 obtain ⟨B,hB⟩: ∃B,B=V.heap.size:=⟨_,rfl⟩;rw [<-hB]at HA⊢;clear A0 x0 Z0 hB;go_wp2
 go_loopw [5,10] (λv ii wr=> ∃i:Nat,i<=c.bF.length/\OD W c.bF gY.name i v wr/\ii= .int .i64 i) (λ_ ii _=>c.bF.length-(intOf ii).toNat)
 case atStart=>exact ⟨0,bm,⟨cj.nil _ _ _ _,ah⟩,rfl⟩
 case round=>
  obtain ⟨i,hi,hO,rfl⟩:=hrel;have HO:=af hO;obtain ⟨-,-,k2,k3,k4,k5,k6,k7⟩:=aq.at (HA.o.ext hO.ext);clear hO;by_cases hlt:i<c.bF.length
  .obtain ⟨b,o,ha,c0,-⟩:=((HR.o.ext HV.o).ext (HX.o.trans HO.o.ext)).bF i hlt
   rw [ha]at k6;have mn:(0:Int)<=(i:Int):=ae;have mq:(i:Int)<(c.bF.length:Int):=ae;clear ha k2 k3 k4 k5 k7;go_wp2_with (at_builtin;refine HO.o.push hlt HN.o (.tmp 94) (.tmp 101) rfl rfl rfl rfl ?_;intro v1 w5 uq)
   exact ⟨⟨i+1,ae,uq,bq⟩,bz⟩
  .obtain rfl:i=c.bF.length:=ae
   obtain ⟨a,cap,rfl,hS,kV⟩:=HO.o.done;have HS:=af hS;have qm:=af kV
   clear hS kV;go_wp2
   go_ret;exact ⟨a,cap,rfl,HS.o,HX.o.trans HO.o.ext,qm.o.mono HX.o.size⟩
theorem zX (w0 V:World) (c:aq) (hV:Ext w0 V) (hc:bK w0 c) (hn:c.outs.length<=1000000):
 Calls prog 203 #[.agg (C8 c),i64 6] V λe w'=> ∃a cap,e= .returned (.slice a c.outs.length cap)/\l9 w' a cap (c.outs.map ee.name)/\Ext V w'/\Fr V.heap.size a:=by
 try unfold C8
 have hr:=hc.outs;have hle:=hr.le;have eI:=hr.cap
 rw [List.length_map]at hle;have HR:=af hr;have HV:=af hV;have HN:=af hn
 clear hc hr hV hn;go_enter func203,ntmps203
 go_upto_region 1 with fail
 obtain ⟨W,hW,x0,Z0,A0⟩:=bS V 30 c.cells;rw [show V.alloc (.cells (C8 c) 30)=W from hW.symm];clear hW;have HA:=af A0;have HX:=af x0
 obtain ⟨B,hB⟩: ∃B,B=V.heap.size:=⟨_,rfl⟩;rw [<-hB]at HA⊢;clear A0 x0 Z0 hB;go_wp2
 go_loopw [5,11] (λv ii wr=> ∃i:Nat,i<=c.outs.length/\OD W c.outs ee.name i v wr/\ii= .int .i64 i) (λ_ ii _=>c.outs.length-(intOf ii).toNat)
 case atStart=>exact ⟨0,bm,⟨cj.nil _ _ _ _,ah⟩,rfl⟩
 case round=>
  obtain ⟨i,hi,hO,rfl⟩:=hrel;have HO:=af hO;obtain ⟨-,-,k2,k3,k4,k5,k6,k7⟩:=aq.at (HA.o.ext hO.ext);clear hO;by_cases hlt:i<c.outs.length
  .obtain ⟨b,o,ha,c0,-⟩:=((HR.o.ext HV.o).ext (HX.o.trans HO.o.ext)).outs i hlt
   rw [ha]at k7;have mn:(0:Int)<=(i:Int):=ae;have mq:(i:Int)<(c.outs.length:Int):=ae;clear ha k2 k3 k4 k5 k6;go_wp2_with (at_builtin;refine HO.o.push hlt HN.o (.tmp 112) (.tmp 119) rfl rfl rfl rfl ?_;intro v1 w5 uq)
   exact ⟨⟨i+1,ae,uq,bq⟩,bz⟩
  .obtain rfl:i=c.outs.length:=ae
   obtain ⟨a,cap,rfl,hS,kV⟩:=HO.o.done;have HS:=af hS;have qm:=af kV
   clear hS kV;go_wp2
   go_ret;exact ⟨a,cap,rfl,HS.o,HX.o.trans HO.o.ext,qm.o.mono HX.o.size⟩
theorem Cr (w0 V:World) (c:aq) (kind:Int) (A9:List ByteArray) (hn:fo c kind=A9) (hk:1<=kind/\kind<=6) (hV:Ext w0 V) (hc:bK w0 c) (hl:A9.length<=1000000):
 Calls prog 203 #[.agg (C8 c),i64 kind] V λe w'=> ∃a cap,e= .returned (.slice a A9.length cap)/\l9 w' a cap A9/\Ext V w'/\Fr V.heap.size a:=by
 try unfold C8
 rcases (show kind=1\/kind=2\/kind=3\/kind=4\/kind=5\/kind=6 by omega)with e|e|e|e|e|e<;>subst e
 .rw [tH]at hn;subst hn;rw [List.length_map]at hl⊢;exact yr w0 V c hV hc hl
 .rw [tI]at hn;subst hn;rw [List.length_map]at hl⊢;exact yt w0 V c hV hc hl
 .rw [tJ]at hn;subst hn;rw [List.length_map]at hl⊢;exact yv w0 V c hV hc hl
 .rw [rh]at hn;subst hn;rw [List.length_map]at hl⊢;exact vW w0 V c hV hc hl
 .rw [uV]at hn;subst hn;rw [List.length_map]at hl⊢;exact zU w0 V c hV hc hl
 .rw [kI]at hn;subst hn;rw [List.length_map]at hl⊢;exact zX w0 V c hV hc hl
def nA (e:Int) (nm:ByteArray) (prev:List ByteArray):Int:=nd (nd e (eN nm) 9) (prev.all λp=>Nt p nm) 10
theorem OE (l:List ByteArray) (f:ByteArray->Bool) (k:Nat) (h:k<l.length):(l.take (k+1)).all f=((l.take k).all f&&f l[k]):=by
 rw [List.take_succ_eq_append_getElem h,List.all_append];simp
theorem l9.but {w w':World} {a:Option Addr} {c K:Nat} {l:List ByteArray} (h:l9 w a c l) (x:aH K w w') (hb: ∀p,a=some p->p.block≠K):l9 w' a c l:=
 ⟨h.le,h.cap,λi hi=>by
   obtain ⟨b,o,ha,hc⟩:=di.cell h i hi;exact ⟨b,o,ha,λj hj=>g_ (hc j hj) x (show b≠K from hb _ ha)⟩⟩
theorem kJ (w0 V:World) (K:Nat) (c:aq) (e:Int) (kind:Int) (i:Nat) (prev A9:List ByteArray) (nm:ByteArray) (hn:fo c kind=A9) (hk:1<=kind/\kind<=6) (h2: ∃h:i<A9.length,A9[i]=nm/\A9.take i=prev) (h3:A9.length<=1000000)
 (hK:w0.heap.size<=K) (hV:Ext w0 V) (hc:bK w0 c) (hsz:nm.size<=maxLen) (h:FE V K e):
 Calls prog 114 #[.pointer (some ⟨K,0,none⟩),.agg (C8 c),i64 kind,i64 i] V λe' w'=>vS V K (nA e nm prev) e' w':=by
 try unfold C8
 have Rg:=h.lt;obtain ⟨hi,LK,OG⟩:=h2;have FX:prev.length=i:=by rw [<-OG,List.length_take];omega
 unfold nA;obtain ⟨e1,Ht⟩: ∃e1,nd e (eN nm) 9=e1:=⟨_,rfl⟩;rw [Ht];have XW:=af (λU (hU:FE U K e)=>d_ U K e (eN nm) kind i 0 9 hU);rw [Ht]at XW;have XX:=af (λU=>Oy U nm hsz);have HH:=af h;have HKl:=af Rg;have HPV:=af OG;have uW:=af FX;have HNM:=af LK
 have Xf:A9.length<=1000000:=h3;obtain ⟨W,hW,x0,Z0,A0⟩:=bS V 30 c.cells;have Wq:Hid (V.alloc (.cells (C8 c) 30)=W):=hW.symm;have OH:=af (Cr w0 W c kind A9 hn hk (hV.trans x0) hc h3);obtain ⟨B,hB⟩: ∃B,B=V.heap.size:=⟨_,rfl⟩;rw [<-hB]at A0;have tx:=af x0;have HB:=af hB;have k0:=aq.at A0;clear hW x0 Z0 h OG FX LK Ht hn hc hV hsz A0 h3 hK Rg hk;go_enter func114,ntmps114
 go_upto_region 1 with fail
 rw [Wq.o,<-hB];clear hB;go_wp2_with fail
 refine OH.o.mono ?_;rintro e2 W2 ⟨a,cap,rfl,hS,x2,kV⟩;obtain ⟨b,o,rfl,cnm⟩:=hS.cell i hi;rw [HNM.o]at cnm
 have Rh:b≠K:=by
  have:=kV _ rfl;simp only at this;have h1:=tx.o.size;have h2:=HKl.o
  omega
 have hle:=hS.le;have eI:=hS.cap
 rw [List.length_map]at hle;have mn:(0:Int)<=(i:Int):=ae;have mq:(i:Int)<(A9.length:Int):=ae;have HS:=af hS;have kz:=af (tx.o.trans x2)
 clear k0 hS x2 kV OH;go_wp2_with fail
 refine (XX.o _).mono ?_;rintro e3 W3 ⟨rfl,rfl⟩;go_wp2_with fail
 refine (XW.o _ (HH.o.ext kz.o)).mono ?_;rintro e4 W4 ⟨rfl,OI,gW⟩;have S':=af OI;have uu:=af ((kz.o.but K).trans gW)
 have HS4:=af (HS.o.but gW (λp e=>by cases e;exact Rh));clear cnm OI gW HS kz;go_wp2
 go_loopw [9] (λii wr=> ∃k:Nat,k<=i/\FE wr K (nd e1 ((prev.take k).all λp=>Nt p nm) 10)/\aH K V wr/\l9 wr (some ⟨b,o,none⟩) cap A9/\ii= .int .i64 k) (λii _=>i-(intOf ii).toNat)
 case atStart=>exact ⟨0,bm,by simpa [jK]using S'.o,uu.o,HS4.o,rfl⟩
 case round=>
  obtain ⟨k,hk,hF,hX,hS,rfl⟩:=hrel;clear S' uu HS4;by_cases hlt:k<i
  .obtain ⟨b',o',e',g0⟩:=hS.cell k ae
   cases e'
   obtain ⟨b',o',e',g1⟩:=hS.cell i hi;cases e'
   rw [HNM.o]at g1;have XY:k<prev.length:=by rw [uW.o];exact hlt
   have hpk:A9[k]'ae=prev[k]:=by
    have h5:=HPV.o;subst h5;rw [List.getElem_take]
   rw [hpk]at g0;have HAL:=af (OE prev (λp=>Nt p nm) k XY);generalize prev[k]=p at*;generalize (prev.take k).all (λp=>Nt p nm)=q at*;have Nu:=af (λU (hU:FE U K (nd e1 q 10))=>d_ U K (nd e1 q 10) (Nt p nm) kind i 0 10 hU);have HF:=af hF;have HXX:=af hX;have UZ:=af hS
   have Wn:(0:Int)<=(k:Int):=ae;have Wo:(k:Int)<(A9.length:Int):=ae;clear hF hX hS hpk;have g0:wr.drew.cell? ⟨b,o+k,none⟩=some (.string p):=g0;have g1:wr.drew.cell? ⟨b,o+i,none⟩=some (.string nm):=g1;unfold Nt at Nu;go_wp2_with fail
   refine eo (λw'=>w'.cell? ⟨b,o+k,none⟩=some (.string p)/\w'.cell? ⟨b,o+i,none⟩=some (.string nm)) (λw'=>True) (λi=>false) aw (⟨g0,g1⟩) (trivial) (λdA aL=> ?_);refine eG 0 dA aL ?_;refine eG 1 dA aL ?_;refine eG 2 dA aL ?_ (v:= .int .i64 (k:Int));refine eG 3 dA aL ?_;refine eG 4 dA aL ?_ (v:= .string p);refine eG 5 dA aL ?_;refine eG 6 dA aL ?_ (v:= .int .i64 (i:Int));refine eG 7 dA aL ?_;refine eG 8 dA aL ?_ (v:= .string nm);refine eG 9 dA aL ?_ (v:= .bool (!(p.toList==nm.toList)));refine eG 10 dA aL ?_ (v:=i64 kind);refine eG 11 dA aL ?_ (v:= .int .i64 (i:Int));refine Nj 12 rfl (λKc hK=> ?_);go_simp;refine (Nu.o wr.drew (HF.o.ext ah.drew)).mono ?_;rintro e5 W5 ⟨rfl,Ta,gl⟩;refine hK.o _ _ (⟨g_ (aB (Ext.refl wr).drew g0) gl Rh,g_ (aB (Ext.refl wr).drew g1) gl Rh⟩) (trivial) (λdA aL=> ?_);clear hK Kc;try simp only [sS]
   refine eh aw ?_ _;clear dA aL
   have HF5:Hid (FE W5 K (nd e1 (q&&Nt p nm) 10)):=by
    show FE _ _ _;rw [<-qj _ _ _ _ ai];exact Ta
   have nB:Hid (aH K V W5):=HXX.o.trans (((Ext.refl wr).drew.but K).trans gl);have HS5:Hid (l9 W5 (some ⟨b,o,none⟩) cap A9):=l9.but (di.ext UZ.o (Ext.refl wr).drew) gl (λp e=>by cases e;exact Rh);clear Ta gl g0 g1;go_wp2
   exact ⟨⟨k+1,ae,by rw [HAL.o];exact HF5.o,nB.o,HS5.o,bq⟩,bz⟩
  .obtain rfl:k=i:=ae
   rw [List.take_of_length_le (by rw [uW.o];exact cG)]at hF;go_wp2
   exact bodyPost_end (v:= .tuple #[]) aw rfl ⟨rfl,hF,hX⟩
def uh (kind:Int):Int:=if kind=2 then 64 else if kind=3 then 16 else if kind=4 then 8 else if kind=5 then 8 else 64
theorem OJ (V:World) (kind:Int) (h:2<=kind/\kind<=6):
 Calls prog 204 #[i64 kind] V λe w'=>e= .returned (i64 (uh kind))/\Ext V w':=by
 rcases (show kind=2\/kind=3\/kind=4\/kind=5\/kind=6 by omega)with e|e|e|e|e<;>subst e
 all_goals
  go_enter func204,ntmps204
  go_wp2
  go_ret;exact ⟨rfl,ah.alloc _⟩
