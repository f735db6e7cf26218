/- Texts of the proof. -/
import Derived.Test.YtkpngkdgphojlaaGreatCf3
set_option linter.all false
set_option maxHeartbeats 1000000
set_option maxRecDepth 100000
namespace Go.Proofs.YtkpngkdgphojlaaGreat
open Go.Proofs.Tryz
open Go.RowKit
theorem vk {m:Nat}: ∀(rows:List (List Value)),(∀r∈rows,r.length=m)→ ∀(i j:Nat) (hi:i<rows.length),j<m→rows.flatten[i*m+j]?=(rows[i])[j]?
 | [],_,i,_,hi,_=>absurd hi (Nat.not_lt_zero _)
 |r::rows,h,0,j,_,hj=>by
  have hr:=h r (by simp);rw [List.flatten_cons,Nat.zero_mul,Nat.zero_add,List.getElem?_append_left (by omega)];rfl
 |r::rows,h,i+1,j,hi,hj=>by
  have hr:=h r (by simp);have h2:=vk rows (fun x hx=>h x (by simp [hx])) i j (by simpa using hi) hj;rw [List.flatten_cons,List.getElem?_append_right (by rw [hr,Nat.succ_mul];omega),hr,show(i+1)*m+j-m=i*m+j by rw [Nat.succ_mul];omega,h2];rfl
theorem gC {m:Nat}: ∀(rows:List (List Value)),(∀r∈rows,r.length=m)→rows.flatten.length=rows.length*m
 | [],_=>by simp
 |r::rows,h=>by rw [List.flatten_cons,List.length_append,gC rows (fun x hx=>h x (by simp [hx])),h r (by simp),List.length_cons,Nat.succ_mul];omega
structure aJ (w:World) (B:Nat) (e:TypeId) (m:Nat) (v:Value) (rows:List (List Value)):Prop where
 own:w.ownsRow B e m v rows.length rows.flatten
 len: ∀r∈rows,r.length=m
theorem aJ.nil (w:World) (B:Nat) (e:TypeId) (m:Nat):aJ w B e m (.slice none 0 0) []:=⟨⟨by simp,.inl ⟨rfl,rfl⟩⟩,fun _ h=>by cases h⟩
theorem aJ.ext {w w':World} {B:Nat} {e:TypeId} {m:Nat} {v:Value} {rows:List (List Value)} (h:aJ w B e m v rows) (x:Ext w w'):aJ w' B e m v rows:=⟨bW h.own x,h.len⟩
theorem aJ.snoc {w w':World} {B:Nat} {e:TypeId} {m:Nat} {v v':Value} {rows:List (List Value)} {r:List Value} (h:aJ w B e m v rows) (hr:r.length=m) (hn:w'.ownsRow B e m v' (rows.length+1) (rows.flatten++r)):aJ w' B e m v' (rows++ [r]):=
 ⟨by rw [List.length_append,List.flatten_append];simpa using hn,fun x hx=>by rcases List.mem_append.1 hx with h1|h1;exact h.len x h1;rw [List.mem_singleton]at h1;rw [h1];exact hr⟩
theorem aJ.recs {w:World} {B:Nat} {e:TypeId} {m:Nat} {v:Value} {rows:List (List Value)} (h:aJ w B e m v rows) (hm:0<m): ∃a c,v= .slice a rows.length c∧bH w m a c rows∧Fr B a:=by
 have UK:=gC rows h.len;rcases h.own.2 with⟨rfl,h0⟩|⟨g,cap,cur,rfl,hb,hg,hn,dQ,hcs,AH⟩
 ·refine ⟨none,0,?_,⟨by omega,by omega,fun i hi=>by omega⟩,Fr.none _⟩
  rw [h0]
 ·refine ⟨some ⟨g,0,none⟩,cap,rfl,⟨hn,by unfold maxLen at dQ;omega,fun i hi=>⟨g,0,rfl,fun j hj=> ?_⟩⟩,Fr.some hb⟩
  have hlen:=h.len rows[i] (List.getElem_mem hi);have hj':j<m:=by omega
  have h2:=vk rows h.len i j hi hj';rw [←AH,List.getElem?_take]at h2
  have hlt:i*m+j<rows.length*m:=by
   have:(i+1)*m≤rows.length*m:=Nat.mul_le_mul_right _ hi;rw [Nat.succ_mul]at this;omega
  rw [if_pos hlt,List.getElem?_eq_getElem hj]at h2;simp only [World.cell?,hg,Nat.zero_add];simpa using h2
theorem Tryz.info_string:(Tryz.prog.info? 9).map (fun i=>(i.zero,i.size,i.bytes))=some (some (.string ByteArray.empty),1,16):=by kernel_rfl
abbrev kU (w:World) (a:Option Addr) (c:Nat) (l:List ByteArray):Prop:=bH w 1 a c (l.map fun s=> [.string s])
theorem kU.cell {w:World} {a:Option Addr} {c:Nat} {l:List ByteArray} (h:kU w a c l) (i:Nat) (hi:i<l.length): ∃b o,a=some ⟨b,o,none⟩∧w.cell? ⟨b,o+i,none⟩=some (.string l[i]):=by
 obtain ⟨b,o,ha,hc⟩:=bH.cell h i (by simpa using hi);refine ⟨b,o,ha,?_⟩;have:=hc 0 (by simp);simpa using this
def dU (c:ai) (kind:Int):List ByteArray:=if kind=1 then c.aj.map cN.name else if kind=2 then c.lines.map aS.name else if kind=3 then c.aq.map aK.name else if kind=4 then c.stores.map bG.name else if kind=5 then c.aB.map dX.name else if kind=6 then c.outs.map aY.name else []
theorem pG (c:ai):dU c 1=c.aj.map cN.name:=by unfold dU;rw [if_pos rfl]
theorem pH (c:ai):dU c 2=c.lines.map aS.name:=by unfold dU;rw [if_neg (by decide),if_pos rfl]
theorem pI (c:ai):dU c 3=c.aq.map aK.name:=by unfold dU;rw [if_neg (by decide),if_neg (by decide),if_pos rfl]
theorem oq (c:ai):dU c 4=c.stores.map bG.name:=by unfold dU;rw [if_neg (by decide),if_neg (by decide),if_neg (by decide),if_pos rfl]
theorem qF (c:ai):dU c 5=c.aB.map dX.name:=by unfold dU;rw [if_neg (by decide),if_neg (by decide),if_neg (by decide),if_neg (by decide),if_pos rfl]
theorem qG (c:ai):dU c 6=c.outs.map aY.name:=by unfold dU;rw [if_neg (by decide),if_neg (by decide),if_neg (by decide),if_neg (by decide),if_neg (by decide),if_pos rfl]
theorem ug (w0 V:World) (c:ai) (hV:Ext w0 V) (hc:a_ w0 c) (hn:c.aj.length≤1000000):
 Calls prog 95 #[.agg (C8 c),i64 1] V fun e w'=> ∃a cap,e= .returned (.slice a c.aj.length cap)∧kU w' a cap (c.aj.map cN.name)∧Ext V w'∧Fr V.heap.size a:=by
 try unfold C8
 have hr:=hc.aj;have hle:=hr.le;have dQ:=hr.cap
 rw [List.length_map]at hle;have HR:=ae hr;have HV:=ae hV;have HN:=ae hn
 clear hc hr hV hn;go_enter func95,ntmps95
 go_upto_region 1 with fail
 obtain ⟨W,hW,x0,Z0,A0⟩:=aX V 32 c.cells;rw [show V.alloc (.cells (C8 c) 32)=W from hW.symm];clear hW;have HA:=ae A0;have HX:=ae x0
 obtain ⟨B,hB⟩: ∃B,B=V.heap.size:=⟨_,rfl⟩;rw [←hB]at HA⊢;clear A0 x0 Z0 hB;go_wp2_with fail
 go_loopw [5,6] (fun v ii wr=> ∃i:Nat,i≤c.aj.length∧aJ wr W.heap.size 9 1 v ((c.aj.take i).map fun x=> [.string x.name])∧Ext W wr∧ii= .int .i64 i) (fun _ ii _=>c.aj.length-(intOf ii).toNat)
 case atStart=>exact ⟨0,Nat.zero_le _,aJ.nil _ _ _ _,Ext.refl _,rfl⟩
 case round=>
  obtain ⟨i,hi,hown,hE,rfl⟩:=hrel;have HO:=ae hown;obtain ⟨-,-,k2,k3,k4,k5,k6,k7⟩:=ai.at (HA.o.ext hE);clear hown;by_cases hlt:i<c.aj.length
  ·obtain ⟨b,o,ha,c0,-⟩:=((HR.o.ext HV.o).ext (HX.o.trans hE)).aj i hlt
   have HST:Hid ((c.aj.take (i+1)).map (fun x=> [Value.string x.name])=(c.aj.take i).map (fun x=> [Value.string x.name])++ [[.string c.aj[i].name]]):=by
    show _=_;rw [List.take_succ_eq_append_getElem hlt,List.map_append];rfl
   generalize c.aj[i].name=nm at*;rw [ha]at k2;have HLEN:Hid (((c.aj.take i).map fun x=> [Value.string x.name]).length=i):=by show _=_;simp;omega
   generalize (c.aj.take i).map (fun x=> [Value.string x.name])=rows at*;have jS:(0:Int)≤(i:Int):=by omega
   have jI:(i:Int)<(c.aj.length:Int):=by omega
   have HE:=ae hE;have wJ:=hE.size
   clear ha hE k3 k4 k5 k6 k7
   have HOW:Hid (wr.ownsRow W.heap.size 9 1 u5 i rows.flatten):=by
    have h5:=HO.o.own;rw [HLEN.o]at h5;exact h5
   go_wp2_with (at_builtin;refine bn _ rfl (.tmp 22) (.tmp 29) 156 rfl W.heap.size 9 (.string ByteArray.empty) 1 16 underlying156 Tryz.info_string rfl (by decide) u5 i rows.flatten rfl ?c1 (some ⟨wr.heap.size,0,none⟩) 1 1 [.string nm] rfl rfl ?c2 ?c3 ?c4 ?c5 (by decide) ?c6 ?_;rotate_right;intro v1 w5 ho he hb hz hv)
   case c1=>exact bW HOW.o ((Ext.refl _).alloc _)
   case c2=>exact fun _=>⟨_,rfl,dD wr 9 [.string nm]⟩
   case c3=>intro u hu;rw [List.mem_singleton]at hu;subst hu;rfl
   case c4=>intro e;cases e
   case c5=>have:=HN.o;omega
   case c6=>have:=wJ;simp;omega
   have x5:Ext W w5:=he.o W (HE.o.alloc _) (Nat.le_refl _);have kF:=HO.o.snoc (w':=w5) (v':=v1) (r:= [.string nm]) rfl (by rw [HLEN.o];exact ho.o);rw [←HST.o]at kF;exact ⟨⟨i+1,by omega,kF,x5,by go_num⟩,by simp only [intOf];omega⟩
  ·obtain rfl:i=c.aj.length:=by omega
   rw [List.take_length]at HO;obtain ⟨a,cap,rfl,hS,jm⟩:=HO.o.recs (by decide);have e1:(c.aj.map fun x=> [Value.string x.name])=(c.aj.map cN.name).map fun s=> [Value.string s]:=by rw [List.map_map];rfl
   rw [e1]at hS;have HS:=ae hS;have qH:=ae jm
   rw [List.length_map];clear hS e1 HO jm;go_wp2_with fail
   go_ret;exact ⟨a,cap,rfl,HS.o,HX.o.trans hE,qH.o.mono HX.o.size⟩
theorem uh (w0 V:World) (c:ai) (hV:Ext w0 V) (hc:a_ w0 c) (hn:c.lines.length≤1000000):
 Calls prog 95 #[.agg (C8 c),i64 2] V fun e w'=> ∃a cap,e= .returned (.slice a c.lines.length cap)∧kU w' a cap (c.lines.map aS.name)∧Ext V w'∧Fr V.heap.size a:=by
 try unfold C8
 have hr:=hc.lines;have hle:=hr.le;have dQ:=hr.cap
 rw [List.length_map]at hle;have HR:=ae hr;have HV:=ae hV;have HN:=ae hn
 clear hc hr hV hn;go_enter func95,ntmps95
 go_upto_region 1 with fail
 obtain ⟨W,hW,x0,Z0,A0⟩:=aX V 32 c.cells;rw [show V.alloc (.cells (C8 c) 32)=W from hW.symm];clear hW;have HA:=ae A0;have HX:=ae x0
 obtain ⟨B,hB⟩: ∃B,B=V.heap.size:=⟨_,rfl⟩;rw [←hB]at HA⊢;clear A0 x0 Z0 hB;go_wp2_with fail
 go_loopw [5,7] (fun v ii wr=> ∃i:Nat,i≤c.lines.length∧aJ wr W.heap.size 9 1 v ((c.lines.take i).map fun x=> [.string x.name])∧Ext W wr∧ii= .int .i64 i) (fun _ ii _=>c.lines.length-(intOf ii).toNat)
 case atStart=>exact ⟨0,Nat.zero_le _,aJ.nil _ _ _ _,Ext.refl _,rfl⟩
 case round=>
  obtain ⟨i,hi,hown,hE,rfl⟩:=hrel;have HO:=ae hown;obtain ⟨-,-,k2,k3,k4,k5,k6,k7⟩:=ai.at (HA.o.ext hE);clear hown;by_cases hlt:i<c.lines.length
  ·obtain ⟨b,o,ha,c0,-⟩:=((HR.o.ext HV.o).ext (HX.o.trans hE)).lines i hlt
   have HST:Hid ((c.lines.take (i+1)).map (fun x=> [Value.string x.name])=(c.lines.take i).map (fun x=> [Value.string x.name])++ [[.string c.lines[i].name]]):=by
    show _=_;rw [List.take_succ_eq_append_getElem hlt,List.map_append];rfl
   generalize c.lines[i].name=nm at*;rw [ha]at k3;have HLEN:Hid (((c.lines.take i).map fun x=> [Value.string x.name]).length=i):=by show _=_;simp;omega
   generalize (c.lines.take i).map (fun x=> [Value.string x.name])=rows at*;have jS:(0:Int)≤(i:Int):=by omega
   have jI:(i:Int)<(c.lines.length:Int):=by omega
   have HE:=ae hE;have wJ:=hE.size
   clear ha hE k2 k4 k5 k6 k7
   have HOW:Hid (wr.ownsRow W.heap.size 9 1 u5 i rows.flatten):=by
    have h5:=HO.o.own;rw [HLEN.o]at h5;exact h5
   go_wp2_with (at_builtin;refine bn _ rfl (.tmp 40) (.tmp 47) 156 rfl W.heap.size 9 (.string ByteArray.empty) 1 16 underlying156 Tryz.info_string rfl (by decide) u5 i rows.flatten rfl ?c1 (some ⟨wr.heap.size,0,none⟩) 1 1 [.string nm] rfl rfl ?c2 ?c3 ?c4 ?c5 (by decide) ?c6 ?_;rotate_right;intro v1 w5 ho he hb hz hv)
   case c1=>exact bW HOW.o ((Ext.refl _).alloc _)
   case c2=>exact fun _=>⟨_,rfl,dD wr 9 [.string nm]⟩
   case c3=>intro u hu;rw [List.mem_singleton]at hu;subst hu;rfl
   case c4=>intro e;cases e
   case c5=>have:=HN.o;omega
   case c6=>have:=wJ;simp;omega
   have x5:Ext W w5:=he.o W (HE.o.alloc _) (Nat.le_refl _);have kF:=HO.o.snoc (w':=w5) (v':=v1) (r:= [.string nm]) rfl (by rw [HLEN.o];exact ho.o);rw [←HST.o]at kF;exact ⟨⟨i+1,by omega,kF,x5,by go_num⟩,by simp only [intOf];omega⟩
  ·obtain rfl:i=c.lines.length:=by omega
   rw [List.take_length]at HO;obtain ⟨a,cap,rfl,hS,jm⟩:=HO.o.recs (by decide);have e1:(c.lines.map fun x=> [Value.string x.name])=(c.lines.map aS.name).map fun s=> [Value.string s]:=by rw [List.map_map];rfl
   rw [e1]at hS;have HS:=ae hS;have qH:=ae jm
   rw [List.length_map];clear hS e1 HO jm;go_wp2_with fail
   go_ret;exact ⟨a,cap,rfl,HS.o,HX.o.trans hE,qH.o.mono HX.o.size⟩
theorem ui (w0 V:World) (c:ai) (hV:Ext w0 V) (hc:a_ w0 c) (hn:c.aq.length≤1000000):
 Calls prog 95 #[.agg (C8 c),i64 3] V fun e w'=> ∃a cap,e= .returned (.slice a c.aq.length cap)∧kU w' a cap (c.aq.map aK.name)∧Ext V w'∧Fr V.heap.size a:=by
 try unfold C8
 have hr:=hc.aq;have hle:=hr.le;have dQ:=hr.cap
 rw [List.length_map]at hle;have HR:=ae hr;have HV:=ae hV;have HN:=ae hn
 clear hc hr hV hn;go_enter func95,ntmps95
 go_upto_region 1 with fail
 obtain ⟨W,hW,x0,Z0,A0⟩:=aX V 32 c.cells;rw [show V.alloc (.cells (C8 c) 32)=W from hW.symm];clear hW;have HA:=ae A0;have HX:=ae x0
 obtain ⟨B,hB⟩: ∃B,B=V.heap.size:=⟨_,rfl⟩;rw [←hB]at HA⊢;clear A0 x0 Z0 hB;go_wp2_with fail
 go_loopw [5,8] (fun v ii wr=> ∃i:Nat,i≤c.aq.length∧aJ wr W.heap.size 9 1 v ((c.aq.take i).map fun x=> [.string x.name])∧Ext W wr∧ii= .int .i64 i) (fun _ ii _=>c.aq.length-(intOf ii).toNat)
 case atStart=>exact ⟨0,Nat.zero_le _,aJ.nil _ _ _ _,Ext.refl _,rfl⟩
 case round=>
  obtain ⟨i,hi,hown,hE,rfl⟩:=hrel;have HO:=ae hown;obtain ⟨-,-,k2,k3,k4,k5,k6,k7⟩:=ai.at (HA.o.ext hE);clear hown;by_cases hlt:i<c.aq.length
  ·obtain ⟨b,o,ha,c0,-⟩:=((HR.o.ext HV.o).ext (HX.o.trans hE)).aq i hlt
   have HST:Hid ((c.aq.take (i+1)).map (fun x=> [Value.string x.name])=(c.aq.take i).map (fun x=> [Value.string x.name])++ [[.string c.aq[i].name]]):=by
    show _=_;rw [List.take_succ_eq_append_getElem hlt,List.map_append];rfl
   generalize c.aq[i].name=nm at*;rw [ha]at k4;have HLEN:Hid (((c.aq.take i).map fun x=> [Value.string x.name]).length=i):=by show _=_;simp;omega
   generalize (c.aq.take i).map (fun x=> [Value.string x.name])=rows at*;have jS:(0:Int)≤(i:Int):=by omega
   have jI:(i:Int)<(c.aq.length:Int):=by omega
   have HE:=ae hE;have wJ:=hE.size
   clear ha hE k2 k3 k5 k6 k7
   have HOW:Hid (wr.ownsRow W.heap.size 9 1 u5 i rows.flatten):=by
    have h5:=HO.o.own;rw [HLEN.o]at h5;exact h5
   go_wp2_with (at_builtin;refine bn _ rfl (.tmp 58) (.tmp 65) 156 rfl W.heap.size 9 (.string ByteArray.empty) 1 16 underlying156 Tryz.info_string rfl (by decide) u5 i rows.flatten rfl ?c1 (some ⟨wr.heap.size,0,none⟩) 1 1 [.string nm] rfl rfl ?c2 ?c3 ?c4 ?c5 (by decide) ?c6 ?_;rotate_right;intro v1 w5 ho he hb hz hv)
   case c1=>exact bW HOW.o ((Ext.refl _).alloc _)
   case c2=>exact fun _=>⟨_,rfl,dD wr 9 [.string nm]⟩
   case c3=>intro u hu;rw [List.mem_singleton]at hu;subst hu;rfl
   case c4=>intro e;cases e
   case c5=>have:=HN.o;omega
   case c6=>have:=wJ;simp;omega
   have x5:Ext W w5:=he.o W (HE.o.alloc _) (Nat.le_refl _);have kF:=HO.o.snoc (w':=w5) (v':=v1) (r:= [.string nm]) rfl (by rw [HLEN.o];exact ho.o);rw [←HST.o]at kF;exact ⟨⟨i+1,by omega,kF,x5,by go_num⟩,by simp only [intOf];omega⟩
  ·obtain rfl:i=c.aq.length:=by omega
   rw [List.take_length]at HO;obtain ⟨a,cap,rfl,hS,jm⟩:=HO.o.recs (by decide);have e1:(c.aq.map fun x=> [Value.string x.name])=(c.aq.map aK.name).map fun s=> [Value.string s]:=by rw [List.map_map];rfl
   rw [e1]at hS;have HS:=ae hS;have qH:=ae jm
   rw [List.length_map];clear hS e1 HO jm;go_wp2_with fail
   go_ret;exact ⟨a,cap,rfl,HS.o,HX.o.trans hE,qH.o.mono HX.o.size⟩
theorem sD (w0 V:World) (c:ai) (hV:Ext w0 V) (hc:a_ w0 c) (hn:c.stores.length≤1000000):
 Calls prog 95 #[.agg (C8 c),i64 4] V fun e w'=> ∃a cap,e= .returned (.slice a c.stores.length cap)∧kU w' a cap (c.stores.map bG.name)∧Ext V w'∧Fr V.heap.size a:=by
 try unfold C8
 have hr:=hc.stores;have hle:=hr.le;have dQ:=hr.cap
 rw [List.length_map]at hle;have HR:=ae hr;have HV:=ae hV;have HN:=ae hn
 clear hc hr hV hn;go_enter func95,ntmps95
 go_upto_region 1 with fail
 obtain ⟨W,hW,x0,Z0,A0⟩:=aX V 32 c.cells;rw [show V.alloc (.cells (C8 c) 32)=W from hW.symm];clear hW;have HA:=ae A0;have HX:=ae x0
 obtain ⟨B,hB⟩: ∃B,B=V.heap.size:=⟨_,rfl⟩;rw [←hB]at HA⊢;clear A0 x0 Z0 hB;go_wp2_with fail
 go_loopw [5,9] (fun v ii wr=> ∃i:Nat,i≤c.stores.length∧aJ wr W.heap.size 9 1 v ((c.stores.take i).map fun x=> [.string x.name])∧Ext W wr∧ii= .int .i64 i) (fun _ ii _=>c.stores.length-(intOf ii).toNat)
 case atStart=>exact ⟨0,Nat.zero_le _,aJ.nil _ _ _ _,Ext.refl _,rfl⟩
 case round=>
  obtain ⟨i,hi,hown,hE,rfl⟩:=hrel;have HO:=ae hown;obtain ⟨-,-,k2,k3,k4,k5,k6,k7⟩:=ai.at (HA.o.ext hE);clear hown;by_cases hlt:i<c.stores.length
  ·obtain ⟨b,o,ha,c0,-⟩:=((HR.o.ext HV.o).ext (HX.o.trans hE)).stores i hlt
   have HST:Hid ((c.stores.take (i+1)).map (fun x=> [Value.string x.name])=(c.stores.take i).map (fun x=> [Value.string x.name])++ [[.string c.stores[i].name]]):=by
    show _=_;rw [List.take_succ_eq_append_getElem hlt,List.map_append];rfl
   generalize c.stores[i].name=nm at*;rw [ha]at k5;have HLEN:Hid (((c.stores.take i).map fun x=> [Value.string x.name]).length=i):=by show _=_;simp;omega
   generalize (c.stores.take i).map (fun x=> [Value.string x.name])=rows at*;have jS:(0:Int)≤(i:Int):=by omega
   have jI:(i:Int)<(c.stores.length:Int):=by omega
   have HE:=ae hE;have wJ:=hE.size
   clear ha hE k2 k3 k4 k6 k7
   have HOW:Hid (wr.ownsRow W.heap.size 9 1 u5 i rows.flatten):=by
    have h5:=HO.o.own;rw [HLEN.o]at h5;exact h5
   go_wp2_with (at_builtin;refine bn _ rfl (.tmp 76) (.tmp 83) 156 rfl W.heap.size 9 (.string ByteArray.empty) 1 16 underlying156 Tryz.info_string rfl (by decide) u5 i rows.flatten rfl ?c1 (some ⟨wr.heap.size,0,none⟩) 1 1 [.string nm] rfl rfl ?c2 ?c3 ?c4 ?c5 (by decide) ?c6 ?_;rotate_right;intro v1 w5 ho he hb hz hv)
   case c1=>exact bW HOW.o ((Ext.refl _).alloc _)
   case c2=>exact fun _=>⟨_,rfl,dD wr 9 [.string nm]⟩
   case c3=>intro u hu;rw [List.mem_singleton]at hu;subst hu;rfl
   case c4=>intro e;cases e
   case c5=>have:=HN.o;omega
   case c6=>have:=wJ;simp;omega
   have x5:Ext W w5:=he.o W (HE.o.alloc _) (Nat.le_refl _);have kF:=HO.o.snoc (w':=w5) (v':=v1) (r:= [.string nm]) rfl (by rw [HLEN.o];exact ho.o);rw [←HST.o]at kF;exact ⟨⟨i+1,by omega,kF,x5,by go_num⟩,by simp only [intOf];omega⟩
  ·obtain rfl:i=c.stores.length:=by omega
   rw [List.take_length]at HO;obtain ⟨a,cap,rfl,hS,jm⟩:=HO.o.recs (by decide);have e1:(c.stores.map fun x=> [Value.string x.name])=(c.stores.map bG.name).map fun s=> [Value.string s]:=by rw [List.map_map];rfl
   rw [e1]at hS;have HS:=ae hS;have qH:=ae jm
   rw [List.length_map];clear hS e1 HO jm;go_wp2_with fail
   go_ret;exact ⟨a,cap,rfl,HS.o,HX.o.trans hE,qH.o.mono HX.o.size⟩
theorem vn (w0 V:World) (c:ai) (hV:Ext w0 V) (hc:a_ w0 c) (hn:c.aB.length≤1000000):
 Calls prog 95 #[.agg (C8 c),i64 5] V fun e w'=> ∃a cap,e= .returned (.slice a c.aB.length cap)∧kU w' a cap (c.aB.map dX.name)∧Ext V w'∧Fr V.heap.size a:=by
 try unfold C8
 have hr:=hc.aB;have hle:=hr.le;have dQ:=hr.cap
 rw [List.length_map]at hle;have HR:=ae hr;have HV:=ae hV;have HN:=ae hn
 clear hc hr hV hn;go_enter func95,ntmps95
 go_upto_region 1 with fail
 obtain ⟨W,hW,x0,Z0,A0⟩:=aX V 32 c.cells;rw [show V.alloc (.cells (C8 c) 32)=W from hW.symm];clear hW;have HA:=ae A0;have HX:=ae x0
 obtain ⟨B,hB⟩: ∃B,B=V.heap.size:=⟨_,rfl⟩;rw [←hB]at HA⊢;clear A0 x0 Z0 hB;go_wp2_with fail
 go_loopw [5,10] (fun v ii wr=> ∃i:Nat,i≤c.aB.length∧aJ wr W.heap.size 9 1 v ((c.aB.take i).map fun x=> [.string x.name])∧Ext W wr∧ii= .int .i64 i) (fun _ ii _=>c.aB.length-(intOf ii).toNat)
 case atStart=>exact ⟨0,Nat.zero_le _,aJ.nil _ _ _ _,Ext.refl _,rfl⟩
 case round=>
  obtain ⟨i,hi,hown,hE,rfl⟩:=hrel;have HO:=ae hown;obtain ⟨-,-,k2,k3,k4,k5,k6,k7⟩:=ai.at (HA.o.ext hE);clear hown;by_cases hlt:i<c.aB.length
  ·obtain ⟨b,o,ha,c0,-⟩:=((HR.o.ext HV.o).ext (HX.o.trans hE)).aB i hlt
   have HST:Hid ((c.aB.take (i+1)).map (fun x=> [Value.string x.name])=(c.aB.take i).map (fun x=> [Value.string x.name])++ [[.string c.aB[i].name]]):=by
    show _=_;rw [List.take_succ_eq_append_getElem hlt,List.map_append];rfl
   generalize c.aB[i].name=nm at*;rw [ha]at k6;have HLEN:Hid (((c.aB.take i).map fun x=> [Value.string x.name]).length=i):=by show _=_;simp;omega
   generalize (c.aB.take i).map (fun x=> [Value.string x.name])=rows at*;have jS:(0:Int)≤(i:Int):=by omega
   have jI:(i:Int)<(c.aB.length:Int):=by omega
   have HE:=ae hE;have wJ:=hE.size
   clear ha hE k2 k3 k4 k5 k7
   have HOW:Hid (wr.ownsRow W.heap.size 9 1 u5 i rows.flatten):=by
    have h5:=HO.o.own;rw [HLEN.o]at h5;exact h5
   go_wp2_with (at_builtin;refine bn _ rfl (.tmp 94) (.tmp 101) 156 rfl W.heap.size 9 (.string ByteArray.empty) 1 16 underlying156 Tryz.info_string rfl (by decide) u5 i rows.flatten rfl ?c1 (some ⟨wr.heap.size,0,none⟩) 1 1 [.string nm] rfl rfl ?c2 ?c3 ?c4 ?c5 (by decide) ?c6 ?_;rotate_right;intro v1 w5 ho he hb hz hv)
   case c1=>exact bW HOW.o ((Ext.refl _).alloc _)
   case c2=>exact fun _=>⟨_,rfl,dD wr 9 [.string nm]⟩
   case c3=>intro u hu;rw [List.mem_singleton]at hu;subst hu;rfl
   case c4=>intro e;cases e
   case c5=>have:=HN.o;omega
   case c6=>have:=wJ;simp;omega
   have x5:Ext W w5:=he.o W (HE.o.alloc _) (Nat.le_refl _);have kF:=HO.o.snoc (w':=w5) (v':=v1) (r:= [.string nm]) rfl (by rw [HLEN.o];exact ho.o);rw [←HST.o]at kF;exact ⟨⟨i+1,by omega,kF,x5,by go_num⟩,by simp only [intOf];omega⟩
  ·obtain rfl:i=c.aB.length:=by omega
   rw [List.take_length]at HO;obtain ⟨a,cap,rfl,hS,jm⟩:=HO.o.recs (by decide);have e1:(c.aB.map fun x=> [Value.string x.name])=(c.aB.map dX.name).map fun s=> [Value.string s]:=by rw [List.map_map];rfl
   rw [e1]at hS;have HS:=ae hS;have qH:=ae jm
   rw [List.length_map];clear hS e1 HO jm;go_wp2_with fail
   go_ret;exact ⟨a,cap,rfl,HS.o,HX.o.trans hE,qH.o.mono HX.o.size⟩
theorem vo (w0 V:World) (c:ai) (hV:Ext w0 V) (hc:a_ w0 c) (hn:c.outs.length≤1000000):
 Calls prog 95 #[.agg (C8 c),i64 6] V fun e w'=> ∃a cap,e= .returned (.slice a c.outs.length cap)∧kU w' a cap (c.outs.map aY.name)∧Ext V w'∧Fr V.heap.size a:=by
 try unfold C8
 have hr:=hc.outs;have hle:=hr.le;have dQ:=hr.cap
 rw [List.length_map]at hle;have HR:=ae hr;have HV:=ae hV;have HN:=ae hn
 clear hc hr hV hn;go_enter func95,ntmps95
 go_upto_region 1 with fail
 obtain ⟨W,hW,x0,Z0,A0⟩:=aX V 32 c.cells;rw [show V.alloc (.cells (C8 c) 32)=W from hW.symm];clear hW;have HA:=ae A0;have HX:=ae x0
 obtain ⟨B,hB⟩: ∃B,B=V.heap.size:=⟨_,rfl⟩;rw [←hB]at HA⊢;clear A0 x0 Z0 hB;go_wp2_with fail
 go_loopw [5,11] (fun v ii wr=> ∃i:Nat,i≤c.outs.length∧aJ wr W.heap.size 9 1 v ((c.outs.take i).map fun x=> [.string x.name])∧Ext W wr∧ii= .int .i64 i) (fun _ ii _=>c.outs.length-(intOf ii).toNat)
 case atStart=>exact ⟨0,Nat.zero_le _,aJ.nil _ _ _ _,Ext.refl _,rfl⟩
 case round=>
  obtain ⟨i,hi,hown,hE,rfl⟩:=hrel;have HO:=ae hown;obtain ⟨-,-,k2,k3,k4,k5,k6,k7⟩:=ai.at (HA.o.ext hE);clear hown;by_cases hlt:i<c.outs.length
  ·obtain ⟨b,o,ha,c0,-⟩:=((HR.o.ext HV.o).ext (HX.o.trans hE)).outs i hlt
   have HST:Hid ((c.outs.take (i+1)).map (fun x=> [Value.string x.name])=(c.outs.take i).map (fun x=> [Value.string x.name])++ [[.string c.outs[i].name]]):=by
    show _=_;rw [List.take_succ_eq_append_getElem hlt,List.map_append];rfl
   generalize c.outs[i].name=nm at*;rw [ha]at k7;have HLEN:Hid (((c.outs.take i).map fun x=> [Value.string x.name]).length=i):=by show _=_;simp;omega
   generalize (c.outs.take i).map (fun x=> [Value.string x.name])=rows at*;have jS:(0:Int)≤(i:Int):=by omega
   have jI:(i:Int)<(c.outs.length:Int):=by omega
   have HE:=ae hE;have wJ:=hE.size
   clear ha hE k2 k3 k4 k5 k6
   have HOW:Hid (wr.ownsRow W.heap.size 9 1 u5 i rows.flatten):=by
    have h5:=HO.o.own;rw [HLEN.o]at h5;exact h5
   go_wp2_with (at_builtin;refine bn _ rfl (.tmp 112) (.tmp 119) 156 rfl W.heap.size 9 (.string ByteArray.empty) 1 16 underlying156 Tryz.info_string rfl (by decide) u5 i rows.flatten rfl ?c1 (some ⟨wr.heap.size,0,none⟩) 1 1 [.string nm] rfl rfl ?c2 ?c3 ?c4 ?c5 (by decide) ?c6 ?_;rotate_right;intro v1 w5 ho he hb hz hv)
   case c1=>exact bW HOW.o ((Ext.refl _).alloc _)
   case c2=>exact fun _=>⟨_,rfl,dD wr 9 [.string nm]⟩
   case c3=>intro u hu;rw [List.mem_singleton]at hu;subst hu;rfl
   case c4=>intro e;cases e
   case c5=>have:=HN.o;omega
   case c6=>have:=wJ;simp;omega
   have x5:Ext W w5:=he.o W (HE.o.alloc _) (Nat.le_refl _);have kF:=HO.o.snoc (w':=w5) (v':=v1) (r:= [.string nm]) rfl (by rw [HLEN.o];exact ho.o);rw [←HST.o]at kF;exact ⟨⟨i+1,by omega,kF,x5,by go_num⟩,by simp only [intOf];omega⟩
  ·obtain rfl:i=c.outs.length:=by omega
   rw [List.take_length]at HO;obtain ⟨a,cap,rfl,hS,jm⟩:=HO.o.recs (by decide);have e1:(c.outs.map fun x=> [Value.string x.name])=(c.outs.map aY.name).map fun s=> [Value.string s]:=by rw [List.map_map];rfl
   rw [e1]at hS;have HS:=ae hS;have qH:=ae jm
   rw [List.length_map];clear hS e1 HO jm;go_wp2_with fail
   go_ret;exact ⟨a,cap,rfl,HS.o,HX.o.trans hE,qH.o.mono HX.o.size⟩
theorem ya (w0 V:World) (c:ai) (kind:Int) (wK:List ByteArray) (hn:dU c kind=wK) (hk:1≤kind∧kind≤6) (hV:Ext w0 V) (hc:a_ w0 c) (hl:wK.length≤1000000):
 Calls prog 95 #[.agg (C8 c),i64 kind] V fun e w'=> ∃a cap,e= .returned (.slice a wK.length cap)∧kU w' a cap wK∧Ext V w'∧Fr V.heap.size a:=by
 try unfold C8
 rcases (show kind=1∨kind=2∨kind=3∨kind=4∨kind=5∨kind=6 by omega)with e|e|e|e|e|e<;>subst e
 ·rw [pG]at hn;subst hn;rw [List.length_map]at hl⊢;exact ug w0 V c hV hc hl
 ·rw [pH]at hn;subst hn;rw [List.length_map]at hl⊢;exact uh w0 V c hV hc hl
 ·rw [pI]at hn;subst hn;rw [List.length_map]at hl⊢;exact ui w0 V c hV hc hl
 ·rw [oq]at hn;subst hn;rw [List.length_map]at hl⊢;exact sD w0 V c hV hc hl
 ·rw [qF]at hn;subst hn;rw [List.length_map]at hl⊢;exact vn w0 V c hV hc hl
 ·rw [qG]at hn;subst hn;rw [List.length_map]at hl⊢;exact vo w0 V c hV hc hl
def iF (e:Int) (nm:ByteArray) (prev:List ByteArray):Int:=nd (nd e (dK nm) 9) (prev.all fun p=>Da p nm) 10
theorem Ir (l:List ByteArray) (f:ByteArray→Bool) (k:Nat) (h:k<l.length):(l.take (k+1)).all f=((l.take k).all f&&f l[k]):=by
 rw [List.take_succ_eq_append_getElem h,List.all_append];simp
theorem kU.but {w w':World} {a:Option Addr} {c K:Nat} {l:List ByteArray} (h:kU w a c l) (x:ar K w w') (hb: ∀p,a=some p→p.block≠K):kU w' a c l:=
 ⟨h.le,h.cap,fun i hi=>by
   obtain ⟨b,o,ha,hc⟩:=bH.cell h i hi;exact ⟨b,o,ha,fun j hj=>cK (hc j hj) x (show b≠K from hb _ ha)⟩⟩
theorem mA (w0 V:World) (K:Nat) (c:ai) (e:Int) (kind:Int) (i:Nat) (prev wK:List ByteArray) (nm:ByteArray) (hn:dU c kind=wK) (hk:1≤kind∧kind≤6) (h2: ∃h:i<wK.length,wK[i]=nm∧wK.take i=prev) (h3:wK.length≤1000000)
 (hK:w0.heap.size≤K) (hV:Ext w0 V) (hc:a_ w0 c) (hsz:nm.size≤maxLen) (h:FE V K e):
 Calls prog 53 #[.pointer (some ⟨K,0,none⟩),.agg (C8 c),i64 kind,i64 i] V fun e' w'=>sy V K (iF e nm prev) e' w':=by
 try unfold C8
 have KF:=h.lt;obtain ⟨hi,CH,Dc⟩:=h2;have AZ:prev.length=i:=by rw [←Dc,List.length_take];omega
 unfold iF;obtain ⟨e1,CI⟩: ∃e1,nd e (dK nm) 9=e1:=⟨_,rfl⟩;rw [CI];have Q5:=ae (fun U (hU:FE U K e)=>cP U K e (dK nm) kind i 0 9 hU);rw [CI]at Q5;have Q6:=ae (fun U=>Il U nm hsz);have HH:=ae h;have HKl:=ae KF;have HPV:=ae Dc;have yb:=ae AZ;have Dd:=ae CH
 have MR:wK.length≤1000000:=h3;obtain ⟨W,hW,x0,Z0,A0⟩:=aX V 32 c.cells;have PZ:Hid (V.alloc (.cells (C8 c) 32)=W):=hW.symm;have Iu:=ae (ya w0 W c kind wK hn hk (hV.trans x0) hc h3);obtain ⟨B,hB⟩: ∃B,B=V.heap.size:=⟨_,rfl⟩;rw [←hB]at A0;have pZ:=ae x0;have HB:=ae hB;have k0:=ai.at A0;clear hW x0 Z0 h Dc AZ CH CI hn hc hV hsz A0 h3 hK KF hk;go_enter func53,ntmps53
 go_upto_region 1 with fail
 rw [PZ.o,←hB];clear hB;go_wp2_with fail
 refine Iu.o.mono ?_;rintro e2 W2 ⟨a,cap,rfl,hS,x2,jm⟩;obtain ⟨b,o,rfl,cnm⟩:=hS.cell i hi;rw [Dd.o]at cnm
 have La:b≠K:=by
  have:=jm _ rfl;simp only at this;have h1:=pZ.o.size;have h2:=HKl.o
  omega
 have hle:=hS.le;have dQ:=hS.cap
 rw [List.length_map]at hle;have jS:(0:Int)≤(i:Int):=by omega
 have jI:(i:Int)<(wK.length:Int):=by omega
 have HS:=ae hS;have ez:=ae (pZ.o.trans x2)
 clear k0 hS x2 jm Iu;go_wp2_with fail
 refine (Q6.o _).mono ?_;rintro e3 W3 ⟨rfl,rfl⟩;go_wp2_with fail
 refine (Q5.o _ (HH.o.ext ez.o)).mono ?_;rintro e4 W4 ⟨rfl,Iw,fl⟩;have MS:=ae Iw;have qI:=ae ((ez.o.but K).trans fl)
 have HS4:=ae (HS.o.but fl (fun p e=>by cases e;exact La));clear cnm Iw fl HS ez;go_wp2_with fail
 go_loopw [9] (fun ii wr=> ∃k:Nat,k≤i∧FE wr K (nd e1 ((prev.take k).all fun p=>Da p nm) 10)∧ar K V wr∧kU wr (some ⟨b,o,none⟩) cap wK∧ii= .int .i64 k) (fun ii _=>i-(intOf ii).toNat)
 case atStart=>exact ⟨0,Nat.zero_le _,by simpa [bY]using MS.o,qI.o,HS4.o,rfl⟩
 case round=>
  obtain ⟨k,hk,hF,hX,hS,rfl⟩:=hrel;clear MS qI HS4;by_cases hlt:k<i
  ·obtain ⟨b',o',e',g0⟩:=hS.cell k (by omega)
   cases e'
   obtain ⟨b',o',e',g1⟩:=hS.cell i hi;cases e'
   rw [Dd.o]at g1;have UL:k<prev.length:=by rw [yb.o];exact hlt
   have hpk:wK[k]'(by omega)=prev[k]:=by
    have h5:=HPV.o;subst h5;rw [List.getElem_take]
   rw [hpk]at g0;have N4:=ae (Ir prev (fun p=>Da p nm) k UL);generalize prev[k]=p at*;generalize (prev.take k).all (fun p=>Da p nm)=q at*;have Hx:=ae (fun U (hU:FE U K (nd e1 q 10))=>cP U K (nd e1 q 10) (Da p nm) kind i 0 10 hU);have HF:=ae hF;have uB:=ae hX;have Q8:=ae hS
   have CY:(0:Int)≤(k:Int):=by omega
   have CZ:(k:Int)<(wK.length:Int):=by omega
   clear hF hX hS hpk;have g0:wr.drew.cell? ⟨b,o+k,none⟩=some (.string p):=g0;have g1:wr.drew.cell? ⟨b,o+i,none⟩=some (.string nm):=g1;unfold Da at Hx;go_wp2_with fail
   refine aL (fun w'=>w'.cell? ⟨b,o+k,none⟩=some (.string p)∧w'.cell? ⟨b,o+i,none⟩=some (.string nm)) (fun w'=>True) (fun i=>false) (by kernel_rfl) (⟨g0,g1⟩) (trivial) (fun ay ah=> ?_);refine aF 0 ay ah ?_;refine aF 1 ay ah ?_;refine aF 2 ay ah ?_ (v:= .int .i64 (k:Int));refine aF 3 ay ah ?_;refine aF 4 ay ah ?_ (v:= .string p);refine aF 5 ay ah ?_;refine aF 6 ay ah ?_ (v:= .int .i64 (i:Int));refine aF 7 ay ah ?_;refine aF 8 ay ah ?_ (v:= .string nm);refine aF 9 ay ah ?_ (v:= .bool (!(p.toList==nm.toList)));refine aF 10 ay ah ?_ (v:=i64 kind);refine aF 11 ay ah ?_ (v:= .int .i64 (i:Int));refine fp 12 rfl (fun Kc hK=> ?_);go_simp;refine (Hx.o wr.drew (HF.o.ext (Ext.refl _).drew)).mono ?_;rintro e5 W5 ⟨rfl,Ix,dY⟩;refine hK.o _ _ (⟨cK (ak (Ext.refl wr).drew g0) dY La,cK (ak (Ext.refl wr).drew g1) dY La⟩) (trivial) (fun ay ah=> ?_);clear hK Kc;try simp only [sS]
   refine aD (by kernel_rfl) ?_ _;clear ay ah
   have Q9:Hid (FE W5 K (nd e1 (q&&Da p nm) 10)):=by
    show FE _ _ _;rw [←nL _ _ _ _ (by decide)];exact Ix
   have vp:Hid (ar K V W5):=uB.o.trans (((Ext.refl wr).drew.but K).trans dY);have Iy:Hid (kU W5 (some ⟨b,o,none⟩) cap wK):=kU.but (bH.ext Q8.o (Ext.refl wr).drew) dY (fun p e=>by cases e;exact La);clear Ix dY g0 g1;go_wp2_with fail
   exact ⟨⟨k+1,by omega,by rw [N4.o];exact Q9.o,vp.o,Iy.o,by go_num⟩,by simp only [intOf];omega⟩
  ·obtain rfl:k=i:=by omega
   rw [List.take_of_length_le (by rw [yb.o];exact Nat.le_refl _)]at hF;go_wp2_with fail
   exact bodyPost_end (v:= .tuple #[]) (by simp [results,results53,go_sem]) rfl ⟨rfl,hF,hX⟩
def mY (kind:Int):Int:=if kind=2 then 64 else if kind=3 then 16 else if kind=4 then 8 else if kind=5 then 8 else 64
theorem Iz (V:World) (kind:Int) (h:2≤kind∧kind≤6):
 Calls prog 96 #[i64 kind] V fun e w'=>e= .returned (i64 (mY kind))∧Ext V w':=by
 rcases (show kind=2∨kind=3∨kind=4∨kind=5∨kind=6 by omega)with e|e|e|e|e<;>subst e
 all_goals
  go_enter func96,ntmps96
  go_wp2_with fail
  go_ret;exact ⟨rfl,(Ext.refl _).alloc _⟩
end Go.Proofs.YtkpngkdgphojlaaGreat
