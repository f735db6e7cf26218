/- Texts of the proof. -/
import Derived.Test.YtkpngkdgphojlaaGreatCd3
set_option linter.all false
set_option maxHeartbeats 1000000
set_option maxRecDepth 100000
namespace Go.Proofs.YtkpngkdgphojlaaGreat
open Go.Proofs.Tryz
open Go.RowKit
theorem uB {m:Nat}: ∀(rows:List (List Value)),(∀r∈rows,r.length=m)→ ∀(i j:Nat) (hi:i<rows.length),j<m→rows.flatten[i*m+j]?=(rows[i])[j]?
 | [],_,i,_,hi,_=>absurd hi (Nat.not_lt_zero _)
 |r::rows,h,0,j,_,hj=>by
  have hr:=h r (by simp);rw [List.flatten_cons,Nat.zero_mul,Nat.zero_add,List.getElem?_append_left (by omega)];rfl
 |r::rows,h,i+1,j,hi,hj=>by
  have hr:=h r (by simp);have h2:=uB rows (fun x hx=>h x (by simp [hx])) i j (by simpa using hi) hj;rw [List.flatten_cons,List.getElem?_append_right (by rw [hr,Nat.succ_mul];omega),hr,show(i+1)*m+j-m=i*m+j by rw [Nat.succ_mul];omega,h2];rfl
theorem iC {m:Nat}: ∀(rows:List (List Value)),(∀r∈rows,r.length=m)→rows.flatten.length=rows.length*m
 | [],_=>by simp
 |r::rows,h=>by rw [List.flatten_cons,List.length_append,iC rows (fun x hx=>h x (by simp [hx])),h r (by simp),List.length_cons,Nat.succ_mul];omega
structure aN (w:World) (B:Nat) (e:TypeId) (m:Nat) (v:Value) (rows:List (List Value)):Prop where
 own:w.ownsRow B e m v rows.length rows.flatten
 len: ∀r∈rows,r.length=m
theorem aN.nil (w:World) (B:Nat) (e:TypeId) (m:Nat):aN w B e m (.slice none 0 0) []:=⟨⟨by simp,.inl ⟨rfl,rfl⟩⟩,fun _ h=>by cases h⟩
theorem aN.ext {w w':World} {B:Nat} {e:TypeId} {m:Nat} {v:Value} {rows:List (List Value)} (h:aN w B e m v rows) (x:Ext w w'):aN w' B e m v rows:=⟨bq h.own x,h.len⟩
theorem aN.snoc {w w':World} {B:Nat} {e:TypeId} {m:Nat} {v v':Value} {rows:List (List Value)} {r:List Value} (h:aN w B e m v rows) (hr:r.length=m) (hn:w'.ownsRow B e m v' (rows.length+1) (rows.flatten++r)):aN w' B e m v' (rows++ [r]):=
 ⟨by rw [List.length_append,List.flatten_append];simpa using hn,fun x hx=>by rcases List.mem_append.1 hx with h1|h1;exact h.len x h1;rw [List.mem_singleton]at h1;rw [h1];exact hr⟩
theorem aN.recs {w:World} {B:Nat} {e:TypeId} {m:Nat} {v:Value} {rows:List (List Value)} (h:aN w B e m v rows) (hm:0<m): ∃a c,v= .slice a rows.length c∧bS w m a c rows∧Fr B a:=by
 have hfl:=iC rows h.len;rcases h.own.2 with⟨rfl,h0⟩|⟨g,cap,cur,rfl,hb,hg,hn,dy,hcs,uo⟩
 ·refine ⟨none,0,?_,⟨by omega,by omega,fun i hi=>by omega⟩,Fr.none _⟩
  rw [h0]
 ·refine ⟨some ⟨g,0,none⟩,cap,rfl,⟨hn,by unfold maxLen at dy;omega,fun i hi=>⟨g,0,rfl,fun j hj=> ?_⟩⟩,Fr.some hb⟩
  have hlen:=h.len rows[i] (List.getElem_mem hi);have hj':j<m:=by omega
  have h2:=uB rows h.len i j hi hj';rw [←uo,List.getElem?_take]at h2
  have hlt:i*m+j<rows.length*m:=by
   have:(i+1)*m≤rows.length*m:=Nat.mul_le_mul_right _ hi;rw [Nat.succ_mul]at this;omega
  rw [if_pos hlt,List.getElem?_eq_getElem hj]at h2;simp only [World.cell?,hg,Nat.zero_add];simpa using h2
theorem Tryz.info_string:(Tryz.prog.info? 9).map (fun i=>(i.zero,i.size,i.bytes))=some (some (.string ByteArray.empty),1,16):=by kernel_rfl
abbrev j7 (w:World) (a:Option Addr) (c:Nat) (l:List ByteArray):Prop:=bS w 1 a c (l.map fun s=> [.string s])
theorem j7.cell {w:World} {a:Option Addr} {c:Nat} {l:List ByteArray} (h:j7 w a c l) (i:Nat) (hi:i<l.length): ∃b o,a=some ⟨b,o,none⟩∧w.cell? ⟨b,o+i,none⟩=some (.string l[i]):=by
 obtain ⟨b,o,ha,hc⟩:=bS.cell h i (by simpa using hi);refine ⟨b,o,ha,?_⟩;have:=hc 0 (by simp);simpa using this
def dx (c:ai) (kind:Int):List ByteArray:=if kind=1 then c.ak.map cA.name else if kind=2 then c.lines.map aP.name else if kind=3 then c.au.map aF.name else if kind=4 then c.stores.map bj.name else if kind=5 then c.aL.map dS.name else if kind=6 then c.outs.map bB.name else []
theorem oC (c:ai):dx c 1=c.ak.map cA.name:=by unfold dx;rw [if_pos rfl]
theorem oD (c:ai):dx c 2=c.lines.map aP.name:=by unfold dx;rw [if_neg (by decide),if_pos rfl]
theorem oF (c:ai):dx c 3=c.au.map aF.name:=by unfold dx;rw [if_neg (by decide),if_neg (by decide),if_pos rfl]
theorem nh (c:ai):dx c 4=c.stores.map bj.name:=by unfold dx;rw [if_neg (by decide),if_neg (by decide),if_neg (by decide),if_pos rfl]
theorem pE (c:ai):dx c 5=c.aL.map dS.name:=by unfold dx;rw [if_neg (by decide),if_neg (by decide),if_neg (by decide),if_neg (by decide),if_pos rfl]
theorem pF (c:ai):dx c 6=c.outs.map bB.name:=by unfold dx;rw [if_neg (by decide),if_neg (by decide),if_neg (by decide),if_neg (by decide),if_neg (by decide),if_pos rfl]
theorem tk (w0 V:World) (c:ai) (hV:Ext w0 V) (hc:aS w0 c) (hn:c.ak.length≤1000000):
 Calls prog 95 #[.agg (C8 c),i64 1] V fun e w'=> ∃a cap,e= .returned (.slice a c.ak.length cap)∧j7 w' a cap (c.ak.map cA.name)∧Ext V w'∧Fr V.heap.size a:=by
 try unfold C8
 have hr:=hc.ak;have hle:=hr.le;have dy:=hr.cap
 rw [List.length_map]at hle;have HR:=ae hr;have HV:=ae hV;have HN:=ae hn
 clear hc hr hV hn;go_enter func95,ntmps95
 go_upto_region 1 with fail
 obtain ⟨W,hW,x0,Z0,A0⟩:=aH V 32 c.cells;rw [show V.alloc (.cells (C8 c) 32)=W from hW.symm];clear hW;have HA:=ae A0;have HX:=ae x0
 obtain ⟨B,hB⟩: ∃B,B=V.heap.size:=⟨_,rfl⟩;rw [←hB]at HA⊢;clear A0 x0 Z0 hB;go_wp2_with fail
 go_loopw [5,6] (fun v ii wr=> ∃i:Nat,i≤c.ak.length∧aN wr W.heap.size 9 1 v ((c.ak.take i).map fun x=> [.string x.name])∧Ext W wr∧ii= .int .i64 i) (fun _ ii _=>c.ak.length-(intOf ii).toNat)
 case atStart=>exact ⟨0,Nat.zero_le _,aN.nil _ _ _ _,Ext.refl _,rfl⟩
 case round=>
  obtain ⟨i,hi,hown,hE,rfl⟩:=hrel;have HO:=ae hown;obtain ⟨-,-,k2,k3,k4,k5,k6,k7⟩:=ai.at (HA.o.ext hE);clear hown;by_cases hlt:i<c.ak.length
  ·obtain ⟨b,o,ha,c0,-⟩:=((HR.o.ext HV.o).ext (HX.o.trans hE)).ak i hlt
   have HST:Hid ((c.ak.take (i+1)).map (fun x=> [Value.string x.name])=(c.ak.take i).map (fun x=> [Value.string x.name])++ [[.string c.ak[i].name]]):=by
    show _=_;rw [List.take_succ_eq_append_getElem hlt,List.map_append];rfl
   generalize c.ak[i].name=nm at*;rw [ha]at k2;have HLEN:Hid (((c.ak.take i).map fun x=> [Value.string x.name]).length=i):=by show _=_;simp;omega
   generalize (c.ak.take i).map (fun x=> [Value.string x.name])=rows at*;have f_:(0:Int)≤(i:Int):=by omega
   have fU:(i:Int)<(c.ak.length:Int):=by omega
   have HE:=ae hE;have vX:=hE.size
   clear ha hE k3 k4 k5 k6 k7
   have HOW:Hid (wr.ownsRow W.heap.size 9 1 u5 i rows.flatten):=by
    have h5:=HO.o.own;rw [HLEN.o]at h5;exact h5
   go_wp2_with (at_builtin;refine aW _ rfl (.tmp 22) (.tmp 29) 156 rfl W.heap.size 9 (.string ByteArray.empty) 1 16 underlying156 Tryz.info_string rfl (by decide) u5 i rows.flatten rfl ?c1 (some ⟨wr.heap.size,0,none⟩) 1 1 [.string nm] rfl rfl ?c2 ?c3 ?c4 ?c5 (by decide) ?c6 ?_;rotate_right;intro v1 w5 ho he hb hz hv)
   case c1=>exact bq HOW.o ((Ext.refl _).alloc _)
   case c2=>exact fun _=>⟨_,rfl,cu wr 9 [.string nm]⟩
   case c3=>intro u hu;rw [List.mem_singleton]at hu;subst hu;rfl
   case c4=>intro e;cases e
   case c5=>have:=HN.o;omega
   case c6=>have:=vX;simp;omega
   have x5:Ext W w5:=he.o W (HE.o.alloc _) (Nat.le_refl _);have i5:=HO.o.snoc (w':=w5) (v':=v1) (r:= [.string nm]) rfl (by rw [HLEN.o];exact ho.o);rw [←HST.o]at i5;exact ⟨⟨i+1,by omega,i5,x5,by go_num⟩,by simp only [intOf];omega⟩
  ·obtain rfl:i=c.ak.length:=by omega
   rw [List.take_length]at HO;obtain ⟨a,cap,rfl,hS,jU⟩:=HO.o.recs (by decide);have e1:(c.ak.map fun x=> [Value.string x.name])=(c.ak.map cA.name).map fun s=> [Value.string s]:=by rw [List.map_map];rfl
   rw [e1]at hS;have HS:=ae hS;have tQ:=ae jU
   rw [List.length_map];clear hS e1 HO jU;go_wp2_with fail
   go_ret;exact ⟨a,cap,rfl,HS.o,HX.o.trans hE,tQ.o.mono HX.o.size⟩
theorem tu (w0 V:World) (c:ai) (hV:Ext w0 V) (hc:aS w0 c) (hn:c.lines.length≤1000000):
 Calls prog 95 #[.agg (C8 c),i64 2] V fun e w'=> ∃a cap,e= .returned (.slice a c.lines.length cap)∧j7 w' a cap (c.lines.map aP.name)∧Ext V w'∧Fr V.heap.size a:=by
 try unfold C8
 have hr:=hc.lines;have hle:=hr.le;have dy:=hr.cap
 rw [List.length_map]at hle;have HR:=ae hr;have HV:=ae hV;have HN:=ae hn
 clear hc hr hV hn;go_enter func95,ntmps95
 go_upto_region 1 with fail
 obtain ⟨W,hW,x0,Z0,A0⟩:=aH V 32 c.cells;rw [show V.alloc (.cells (C8 c) 32)=W from hW.symm];clear hW;have HA:=ae A0;have HX:=ae x0
 obtain ⟨B,hB⟩: ∃B,B=V.heap.size:=⟨_,rfl⟩;rw [←hB]at HA⊢;clear A0 x0 Z0 hB;go_wp2_with fail
 go_loopw [5,7] (fun v ii wr=> ∃i:Nat,i≤c.lines.length∧aN wr W.heap.size 9 1 v ((c.lines.take i).map fun x=> [.string x.name])∧Ext W wr∧ii= .int .i64 i) (fun _ ii _=>c.lines.length-(intOf ii).toNat)
 case atStart=>exact ⟨0,Nat.zero_le _,aN.nil _ _ _ _,Ext.refl _,rfl⟩
 case round=>
  obtain ⟨i,hi,hown,hE,rfl⟩:=hrel;have HO:=ae hown;obtain ⟨-,-,k2,k3,k4,k5,k6,k7⟩:=ai.at (HA.o.ext hE);clear hown;by_cases hlt:i<c.lines.length
  ·obtain ⟨b,o,ha,c0,-⟩:=((HR.o.ext HV.o).ext (HX.o.trans hE)).lines i hlt
   have HST:Hid ((c.lines.take (i+1)).map (fun x=> [Value.string x.name])=(c.lines.take i).map (fun x=> [Value.string x.name])++ [[.string c.lines[i].name]]):=by
    show _=_;rw [List.take_succ_eq_append_getElem hlt,List.map_append];rfl
   generalize c.lines[i].name=nm at*;rw [ha]at k3;have HLEN:Hid (((c.lines.take i).map fun x=> [Value.string x.name]).length=i):=by show _=_;simp;omega
   generalize (c.lines.take i).map (fun x=> [Value.string x.name])=rows at*;have f_:(0:Int)≤(i:Int):=by omega
   have fU:(i:Int)<(c.lines.length:Int):=by omega
   have HE:=ae hE;have vX:=hE.size
   clear ha hE k2 k4 k5 k6 k7
   have HOW:Hid (wr.ownsRow W.heap.size 9 1 u5 i rows.flatten):=by
    have h5:=HO.o.own;rw [HLEN.o]at h5;exact h5
   go_wp2_with (at_builtin;refine aW _ rfl (.tmp 40) (.tmp 47) 156 rfl W.heap.size 9 (.string ByteArray.empty) 1 16 underlying156 Tryz.info_string rfl (by decide) u5 i rows.flatten rfl ?c1 (some ⟨wr.heap.size,0,none⟩) 1 1 [.string nm] rfl rfl ?c2 ?c3 ?c4 ?c5 (by decide) ?c6 ?_;rotate_right;intro v1 w5 ho he hb hz hv)
   case c1=>exact bq HOW.o ((Ext.refl _).alloc _)
   case c2=>exact fun _=>⟨_,rfl,cu wr 9 [.string nm]⟩
   case c3=>intro u hu;rw [List.mem_singleton]at hu;subst hu;rfl
   case c4=>intro e;cases e
   case c5=>have:=HN.o;omega
   case c6=>have:=vX;simp;omega
   have x5:Ext W w5:=he.o W (HE.o.alloc _) (Nat.le_refl _);have i5:=HO.o.snoc (w':=w5) (v':=v1) (r:= [.string nm]) rfl (by rw [HLEN.o];exact ho.o);rw [←HST.o]at i5;exact ⟨⟨i+1,by omega,i5,x5,by go_num⟩,by simp only [intOf];omega⟩
  ·obtain rfl:i=c.lines.length:=by omega
   rw [List.take_length]at HO;obtain ⟨a,cap,rfl,hS,jU⟩:=HO.o.recs (by decide);have e1:(c.lines.map fun x=> [Value.string x.name])=(c.lines.map aP.name).map fun s=> [Value.string s]:=by rw [List.map_map];rfl
   rw [e1]at hS;have HS:=ae hS;have tQ:=ae jU
   rw [List.length_map];clear hS e1 HO jU;go_wp2_with fail
   go_ret;exact ⟨a,cap,rfl,HS.o,HX.o.trans hE,tQ.o.mono HX.o.size⟩
theorem tA (w0 V:World) (c:ai) (hV:Ext w0 V) (hc:aS w0 c) (hn:c.au.length≤1000000):
 Calls prog 95 #[.agg (C8 c),i64 3] V fun e w'=> ∃a cap,e= .returned (.slice a c.au.length cap)∧j7 w' a cap (c.au.map aF.name)∧Ext V w'∧Fr V.heap.size a:=by
 try unfold C8
 have hr:=hc.au;have hle:=hr.le;have dy:=hr.cap
 rw [List.length_map]at hle;have HR:=ae hr;have HV:=ae hV;have HN:=ae hn
 clear hc hr hV hn;go_enter func95,ntmps95
 go_upto_region 1 with fail
 obtain ⟨W,hW,x0,Z0,A0⟩:=aH V 32 c.cells;rw [show V.alloc (.cells (C8 c) 32)=W from hW.symm];clear hW;have HA:=ae A0;have HX:=ae x0
 obtain ⟨B,hB⟩: ∃B,B=V.heap.size:=⟨_,rfl⟩;rw [←hB]at HA⊢;clear A0 x0 Z0 hB;go_wp2_with fail
 go_loopw [5,8] (fun v ii wr=> ∃i:Nat,i≤c.au.length∧aN wr W.heap.size 9 1 v ((c.au.take i).map fun x=> [.string x.name])∧Ext W wr∧ii= .int .i64 i) (fun _ ii _=>c.au.length-(intOf ii).toNat)
 case atStart=>exact ⟨0,Nat.zero_le _,aN.nil _ _ _ _,Ext.refl _,rfl⟩
 case round=>
  obtain ⟨i,hi,hown,hE,rfl⟩:=hrel;have HO:=ae hown;obtain ⟨-,-,k2,k3,k4,k5,k6,k7⟩:=ai.at (HA.o.ext hE);clear hown;by_cases hlt:i<c.au.length
  ·obtain ⟨b,o,ha,c0,-⟩:=((HR.o.ext HV.o).ext (HX.o.trans hE)).au i hlt
   have HST:Hid ((c.au.take (i+1)).map (fun x=> [Value.string x.name])=(c.au.take i).map (fun x=> [Value.string x.name])++ [[.string c.au[i].name]]):=by
    show _=_;rw [List.take_succ_eq_append_getElem hlt,List.map_append];rfl
   generalize c.au[i].name=nm at*;rw [ha]at k4;have HLEN:Hid (((c.au.take i).map fun x=> [Value.string x.name]).length=i):=by show _=_;simp;omega
   generalize (c.au.take i).map (fun x=> [Value.string x.name])=rows at*;have f_:(0:Int)≤(i:Int):=by omega
   have fU:(i:Int)<(c.au.length:Int):=by omega
   have HE:=ae hE;have vX:=hE.size
   clear ha hE k2 k3 k5 k6 k7
   have HOW:Hid (wr.ownsRow W.heap.size 9 1 u5 i rows.flatten):=by
    have h5:=HO.o.own;rw [HLEN.o]at h5;exact h5
   go_wp2_with (at_builtin;refine aW _ rfl (.tmp 58) (.tmp 65) 156 rfl W.heap.size 9 (.string ByteArray.empty) 1 16 underlying156 Tryz.info_string rfl (by decide) u5 i rows.flatten rfl ?c1 (some ⟨wr.heap.size,0,none⟩) 1 1 [.string nm] rfl rfl ?c2 ?c3 ?c4 ?c5 (by decide) ?c6 ?_;rotate_right;intro v1 w5 ho he hb hz hv)
   case c1=>exact bq HOW.o ((Ext.refl _).alloc _)
   case c2=>exact fun _=>⟨_,rfl,cu wr 9 [.string nm]⟩
   case c3=>intro u hu;rw [List.mem_singleton]at hu;subst hu;rfl
   case c4=>intro e;cases e
   case c5=>have:=HN.o;omega
   case c6=>have:=vX;simp;omega
   have x5:Ext W w5:=he.o W (HE.o.alloc _) (Nat.le_refl _);have i5:=HO.o.snoc (w':=w5) (v':=v1) (r:= [.string nm]) rfl (by rw [HLEN.o];exact ho.o);rw [←HST.o]at i5;exact ⟨⟨i+1,by omega,i5,x5,by go_num⟩,by simp only [intOf];omega⟩
  ·obtain rfl:i=c.au.length:=by omega
   rw [List.take_length]at HO;obtain ⟨a,cap,rfl,hS,jU⟩:=HO.o.recs (by decide);have e1:(c.au.map fun x=> [Value.string x.name])=(c.au.map aF.name).map fun s=> [Value.string s]:=by rw [List.map_map];rfl
   rw [e1]at hS;have HS:=ae hS;have tQ:=ae jU
   rw [List.length_map];clear hS e1 HO jU;go_wp2_with fail
   go_ret;exact ⟨a,cap,rfl,HS.o,HX.o.trans hE,tQ.o.mono HX.o.size⟩
theorem qW (w0 V:World) (c:ai) (hV:Ext w0 V) (hc:aS w0 c) (hn:c.stores.length≤1000000):
 Calls prog 95 #[.agg (C8 c),i64 4] V fun e w'=> ∃a cap,e= .returned (.slice a c.stores.length cap)∧j7 w' a cap (c.stores.map bj.name)∧Ext V w'∧Fr V.heap.size a:=by
 try unfold C8
 have hr:=hc.stores;have hle:=hr.le;have dy:=hr.cap
 rw [List.length_map]at hle;have HR:=ae hr;have HV:=ae hV;have HN:=ae hn
 clear hc hr hV hn;go_enter func95,ntmps95
 go_upto_region 1 with fail
 obtain ⟨W,hW,x0,Z0,A0⟩:=aH V 32 c.cells;rw [show V.alloc (.cells (C8 c) 32)=W from hW.symm];clear hW;have HA:=ae A0;have HX:=ae x0
 obtain ⟨B,hB⟩: ∃B,B=V.heap.size:=⟨_,rfl⟩;rw [←hB]at HA⊢;clear A0 x0 Z0 hB;go_wp2_with fail
 go_loopw [5,9] (fun v ii wr=> ∃i:Nat,i≤c.stores.length∧aN wr W.heap.size 9 1 v ((c.stores.take i).map fun x=> [.string x.name])∧Ext W wr∧ii= .int .i64 i) (fun _ ii _=>c.stores.length-(intOf ii).toNat)
 case atStart=>exact ⟨0,Nat.zero_le _,aN.nil _ _ _ _,Ext.refl _,rfl⟩
 case round=>
  obtain ⟨i,hi,hown,hE,rfl⟩:=hrel;have HO:=ae hown;obtain ⟨-,-,k2,k3,k4,k5,k6,k7⟩:=ai.at (HA.o.ext hE);clear hown;by_cases hlt:i<c.stores.length
  ·obtain ⟨b,o,ha,c0,-⟩:=((HR.o.ext HV.o).ext (HX.o.trans hE)).stores i hlt
   have HST:Hid ((c.stores.take (i+1)).map (fun x=> [Value.string x.name])=(c.stores.take i).map (fun x=> [Value.string x.name])++ [[.string c.stores[i].name]]):=by
    show _=_;rw [List.take_succ_eq_append_getElem hlt,List.map_append];rfl
   generalize c.stores[i].name=nm at*;rw [ha]at k5;have HLEN:Hid (((c.stores.take i).map fun x=> [Value.string x.name]).length=i):=by show _=_;simp;omega
   generalize (c.stores.take i).map (fun x=> [Value.string x.name])=rows at*;have f_:(0:Int)≤(i:Int):=by omega
   have fU:(i:Int)<(c.stores.length:Int):=by omega
   have HE:=ae hE;have vX:=hE.size
   clear ha hE k2 k3 k4 k6 k7
   have HOW:Hid (wr.ownsRow W.heap.size 9 1 u5 i rows.flatten):=by
    have h5:=HO.o.own;rw [HLEN.o]at h5;exact h5
   go_wp2_with (at_builtin;refine aW _ rfl (.tmp 76) (.tmp 83) 156 rfl W.heap.size 9 (.string ByteArray.empty) 1 16 underlying156 Tryz.info_string rfl (by decide) u5 i rows.flatten rfl ?c1 (some ⟨wr.heap.size,0,none⟩) 1 1 [.string nm] rfl rfl ?c2 ?c3 ?c4 ?c5 (by decide) ?c6 ?_;rotate_right;intro v1 w5 ho he hb hz hv)
   case c1=>exact bq HOW.o ((Ext.refl _).alloc _)
   case c2=>exact fun _=>⟨_,rfl,cu wr 9 [.string nm]⟩
   case c3=>intro u hu;rw [List.mem_singleton]at hu;subst hu;rfl
   case c4=>intro e;cases e
   case c5=>have:=HN.o;omega
   case c6=>have:=vX;simp;omega
   have x5:Ext W w5:=he.o W (HE.o.alloc _) (Nat.le_refl _);have i5:=HO.o.snoc (w':=w5) (v':=v1) (r:= [.string nm]) rfl (by rw [HLEN.o];exact ho.o);rw [←HST.o]at i5;exact ⟨⟨i+1,by omega,i5,x5,by go_num⟩,by simp only [intOf];omega⟩
  ·obtain rfl:i=c.stores.length:=by omega
   rw [List.take_length]at HO;obtain ⟨a,cap,rfl,hS,jU⟩:=HO.o.recs (by decide);have e1:(c.stores.map fun x=> [Value.string x.name])=(c.stores.map bj.name).map fun s=> [Value.string s]:=by rw [List.map_map];rfl
   rw [e1]at hS;have HS:=ae hS;have tQ:=ae jU
   rw [List.length_map];clear hS e1 HO jU;go_wp2_with fail
   go_ret;exact ⟨a,cap,rfl,HS.o,HX.o.trans hE,tQ.o.mono HX.o.size⟩
theorem uC (w0 V:World) (c:ai) (hV:Ext w0 V) (hc:aS w0 c) (hn:c.aL.length≤1000000):
 Calls prog 95 #[.agg (C8 c),i64 5] V fun e w'=> ∃a cap,e= .returned (.slice a c.aL.length cap)∧j7 w' a cap (c.aL.map dS.name)∧Ext V w'∧Fr V.heap.size a:=by
 try unfold C8
 have hr:=hc.aL;have hle:=hr.le;have dy:=hr.cap
 rw [List.length_map]at hle;have HR:=ae hr;have HV:=ae hV;have HN:=ae hn
 clear hc hr hV hn;go_enter func95,ntmps95
 go_upto_region 1 with fail
 obtain ⟨W,hW,x0,Z0,A0⟩:=aH V 32 c.cells;rw [show V.alloc (.cells (C8 c) 32)=W from hW.symm];clear hW;have HA:=ae A0;have HX:=ae x0
 obtain ⟨B,hB⟩: ∃B,B=V.heap.size:=⟨_,rfl⟩;rw [←hB]at HA⊢;clear A0 x0 Z0 hB;go_wp2_with fail
 go_loopw [5,10] (fun v ii wr=> ∃i:Nat,i≤c.aL.length∧aN wr W.heap.size 9 1 v ((c.aL.take i).map fun x=> [.string x.name])∧Ext W wr∧ii= .int .i64 i) (fun _ ii _=>c.aL.length-(intOf ii).toNat)
 case atStart=>exact ⟨0,Nat.zero_le _,aN.nil _ _ _ _,Ext.refl _,rfl⟩
 case round=>
  obtain ⟨i,hi,hown,hE,rfl⟩:=hrel;have HO:=ae hown;obtain ⟨-,-,k2,k3,k4,k5,k6,k7⟩:=ai.at (HA.o.ext hE);clear hown;by_cases hlt:i<c.aL.length
  ·obtain ⟨b,o,ha,c0,-⟩:=((HR.o.ext HV.o).ext (HX.o.trans hE)).aL i hlt
   have HST:Hid ((c.aL.take (i+1)).map (fun x=> [Value.string x.name])=(c.aL.take i).map (fun x=> [Value.string x.name])++ [[.string c.aL[i].name]]):=by
    show _=_;rw [List.take_succ_eq_append_getElem hlt,List.map_append];rfl
   generalize c.aL[i].name=nm at*;rw [ha]at k6;have HLEN:Hid (((c.aL.take i).map fun x=> [Value.string x.name]).length=i):=by show _=_;simp;omega
   generalize (c.aL.take i).map (fun x=> [Value.string x.name])=rows at*;have f_:(0:Int)≤(i:Int):=by omega
   have fU:(i:Int)<(c.aL.length:Int):=by omega
   have HE:=ae hE;have vX:=hE.size
   clear ha hE k2 k3 k4 k5 k7
   have HOW:Hid (wr.ownsRow W.heap.size 9 1 u5 i rows.flatten):=by
    have h5:=HO.o.own;rw [HLEN.o]at h5;exact h5
   go_wp2_with (at_builtin;refine aW _ rfl (.tmp 94) (.tmp 101) 156 rfl W.heap.size 9 (.string ByteArray.empty) 1 16 underlying156 Tryz.info_string rfl (by decide) u5 i rows.flatten rfl ?c1 (some ⟨wr.heap.size,0,none⟩) 1 1 [.string nm] rfl rfl ?c2 ?c3 ?c4 ?c5 (by decide) ?c6 ?_;rotate_right;intro v1 w5 ho he hb hz hv)
   case c1=>exact bq HOW.o ((Ext.refl _).alloc _)
   case c2=>exact fun _=>⟨_,rfl,cu wr 9 [.string nm]⟩
   case c3=>intro u hu;rw [List.mem_singleton]at hu;subst hu;rfl
   case c4=>intro e;cases e
   case c5=>have:=HN.o;omega
   case c6=>have:=vX;simp;omega
   have x5:Ext W w5:=he.o W (HE.o.alloc _) (Nat.le_refl _);have i5:=HO.o.snoc (w':=w5) (v':=v1) (r:= [.string nm]) rfl (by rw [HLEN.o];exact ho.o);rw [←HST.o]at i5;exact ⟨⟨i+1,by omega,i5,x5,by go_num⟩,by simp only [intOf];omega⟩
  ·obtain rfl:i=c.aL.length:=by omega
   rw [List.take_length]at HO;obtain ⟨a,cap,rfl,hS,jU⟩:=HO.o.recs (by decide);have e1:(c.aL.map fun x=> [Value.string x.name])=(c.aL.map dS.name).map fun s=> [Value.string s]:=by rw [List.map_map];rfl
   rw [e1]at hS;have HS:=ae hS;have tQ:=ae jU
   rw [List.length_map];clear hS e1 HO jU;go_wp2_with fail
   go_ret;exact ⟨a,cap,rfl,HS.o,HX.o.trans hE,tQ.o.mono HX.o.size⟩
theorem uD (w0 V:World) (c:ai) (hV:Ext w0 V) (hc:aS w0 c) (hn:c.outs.length≤1000000):
 Calls prog 95 #[.agg (C8 c),i64 6] V fun e w'=> ∃a cap,e= .returned (.slice a c.outs.length cap)∧j7 w' a cap (c.outs.map bB.name)∧Ext V w'∧Fr V.heap.size a:=by
 try unfold C8
 have hr:=hc.outs;have hle:=hr.le;have dy:=hr.cap
 rw [List.length_map]at hle;have HR:=ae hr;have HV:=ae hV;have HN:=ae hn
 clear hc hr hV hn;go_enter func95,ntmps95
 go_upto_region 1 with fail
 obtain ⟨W,hW,x0,Z0,A0⟩:=aH V 32 c.cells;rw [show V.alloc (.cells (C8 c) 32)=W from hW.symm];clear hW;have HA:=ae A0;have HX:=ae x0
 obtain ⟨B,hB⟩: ∃B,B=V.heap.size:=⟨_,rfl⟩;rw [←hB]at HA⊢;clear A0 x0 Z0 hB;go_wp2_with fail
 go_loopw [5,11] (fun v ii wr=> ∃i:Nat,i≤c.outs.length∧aN wr W.heap.size 9 1 v ((c.outs.take i).map fun x=> [.string x.name])∧Ext W wr∧ii= .int .i64 i) (fun _ ii _=>c.outs.length-(intOf ii).toNat)
 case atStart=>exact ⟨0,Nat.zero_le _,aN.nil _ _ _ _,Ext.refl _,rfl⟩
 case round=>
  obtain ⟨i,hi,hown,hE,rfl⟩:=hrel;have HO:=ae hown;obtain ⟨-,-,k2,k3,k4,k5,k6,k7⟩:=ai.at (HA.o.ext hE);clear hown;by_cases hlt:i<c.outs.length
  ·obtain ⟨b,o,ha,c0,-⟩:=((HR.o.ext HV.o).ext (HX.o.trans hE)).outs i hlt
   have HST:Hid ((c.outs.take (i+1)).map (fun x=> [Value.string x.name])=(c.outs.take i).map (fun x=> [Value.string x.name])++ [[.string c.outs[i].name]]):=by
    show _=_;rw [List.take_succ_eq_append_getElem hlt,List.map_append];rfl
   generalize c.outs[i].name=nm at*;rw [ha]at k7;have HLEN:Hid (((c.outs.take i).map fun x=> [Value.string x.name]).length=i):=by show _=_;simp;omega
   generalize (c.outs.take i).map (fun x=> [Value.string x.name])=rows at*;have f_:(0:Int)≤(i:Int):=by omega
   have fU:(i:Int)<(c.outs.length:Int):=by omega
   have HE:=ae hE;have vX:=hE.size
   clear ha hE k2 k3 k4 k5 k6
   have HOW:Hid (wr.ownsRow W.heap.size 9 1 u5 i rows.flatten):=by
    have h5:=HO.o.own;rw [HLEN.o]at h5;exact h5
   go_wp2_with (at_builtin;refine aW _ rfl (.tmp 112) (.tmp 119) 156 rfl W.heap.size 9 (.string ByteArray.empty) 1 16 underlying156 Tryz.info_string rfl (by decide) u5 i rows.flatten rfl ?c1 (some ⟨wr.heap.size,0,none⟩) 1 1 [.string nm] rfl rfl ?c2 ?c3 ?c4 ?c5 (by decide) ?c6 ?_;rotate_right;intro v1 w5 ho he hb hz hv)
   case c1=>exact bq HOW.o ((Ext.refl _).alloc _)
   case c2=>exact fun _=>⟨_,rfl,cu wr 9 [.string nm]⟩
   case c3=>intro u hu;rw [List.mem_singleton]at hu;subst hu;rfl
   case c4=>intro e;cases e
   case c5=>have:=HN.o;omega
   case c6=>have:=vX;simp;omega
   have x5:Ext W w5:=he.o W (HE.o.alloc _) (Nat.le_refl _);have i5:=HO.o.snoc (w':=w5) (v':=v1) (r:= [.string nm]) rfl (by rw [HLEN.o];exact ho.o);rw [←HST.o]at i5;exact ⟨⟨i+1,by omega,i5,x5,by go_num⟩,by simp only [intOf];omega⟩
  ·obtain rfl:i=c.outs.length:=by omega
   rw [List.take_length]at HO;obtain ⟨a,cap,rfl,hS,jU⟩:=HO.o.recs (by decide);have e1:(c.outs.map fun x=> [Value.string x.name])=(c.outs.map bB.name).map fun s=> [Value.string s]:=by rw [List.map_map];rfl
   rw [e1]at hS;have HS:=ae hS;have tQ:=ae jU
   rw [List.length_map];clear hS e1 HO jU;go_wp2_with fail
   go_ret;exact ⟨a,cap,rfl,HS.o,HX.o.trans hE,tQ.o.mono HX.o.size⟩
theorem xv (w0 V:World) (c:ai) (kind:Int) (vY:List ByteArray) (hn:dx c kind=vY) (hk:1≤kind∧kind≤6) (hV:Ext w0 V) (hc:aS w0 c) (hl:vY.length≤1000000):
 Calls prog 95 #[.agg (C8 c),i64 kind] V fun e w'=> ∃a cap,e= .returned (.slice a vY.length cap)∧j7 w' a cap vY∧Ext V w'∧Fr V.heap.size a:=by
 try unfold C8
 rcases (show kind=1∨kind=2∨kind=3∨kind=4∨kind=5∨kind=6 by omega)with e|e|e|e|e|e<;>subst e
 ·rw [oC]at hn;subst hn;rw [List.length_map]at hl⊢;exact tk w0 V c hV hc hl
 ·rw [oD]at hn;subst hn;rw [List.length_map]at hl⊢;exact tu w0 V c hV hc hl
 ·rw [oF]at hn;subst hn;rw [List.length_map]at hl⊢;exact tA w0 V c hV hc hl
 ·rw [nh]at hn;subst hn;rw [List.length_map]at hl⊢;exact qW w0 V c hV hc hl
 ·rw [pE]at hn;subst hn;rw [List.length_map]at hl⊢;exact uC w0 V c hV hc hl
 ·rw [pF]at hn;subst hn;rw [List.length_map]at hl⊢;exact uD w0 V c hV hc hl
def gP (e:Int) (nm:ByteArray) (prev:List ByteArray):Int:=nd (nd e (dh nm) 9) (prev.all fun p=>CL p nm) 10
theorem Hi (l:List ByteArray) (f:ByteArray→Bool) (k:Nat) (h:k<l.length):(l.take (k+1)).all f=((l.take k).all f&&f l[k]):=by
 rw [List.take_succ_eq_append_getElem h,List.all_append];simp
theorem j7.but {w w':World} {a:Option Addr} {c K:Nat} {l:List ByteArray} (h:j7 w a c l) (x:ar K w w') (hb: ∀p,a=some p→p.block≠K):j7 w' a c l:=
 ⟨h.le,h.cap,fun i hi=>by
   obtain ⟨b,o,ha,hc⟩:=bS.cell h i hi;exact ⟨b,o,ha,fun j hj=>bL (hc j hj) x (show b≠K from hb _ ha)⟩⟩
theorem k9 (w0 V:World) (K:Nat) (c:ai) (e:Int) (kind:Int) (i:Nat) (prev vY:List ByteArray) (nm:ByteArray) (hn:dx c kind=vY) (hk:1≤kind∧kind≤6) (h2: ∃h:i<vY.length,vY[i]=nm∧vY.take i=prev) (h3:vY.length≤1000000)
 (hK:w0.heap.size≤K) (hV:Ext w0 V) (hc:aS w0 c) (hsz:nm.size≤maxLen) (h:FE V K e):
 Calls prog 53 #[.pointer (some ⟨K,0,none⟩),.agg (C8 c),i64 kind,i64 i] V fun e' w'=>qT V K (gP e nm prev) e' w':=by
 try unfold C8
 have J9:=h.lt;obtain ⟨hi,Ct,CN⟩:=h2;have Ap:prev.length=i:=by rw [←CN,List.length_take];omega
 unfold gP;obtain ⟨e1,Cu⟩: ∃e1,nd e (dh nm) 9=e1:=⟨_,rfl⟩;rw [Cu];have Qv:=ae (fun U (hU:FE U K e)=>cf U K e (dh nm) kind i 0 9 hU);rw [Cu]at Qv;have Qw:=ae (fun U=>Hd U nm hsz);have HH:=ae h;have HKl:=ae J9;have HPV:=ae CN;have xy:=ae Ap;have CO:=ae Ct
 have hl3:vY.length≤1000000:=h3;obtain ⟨W,hW,x0,Z0,A0⟩:=aH V 32 c.cells;have Py:Hid (V.alloc (.cells (C8 c) 32)=W):=hW.symm;have Hj:=ae (xv w0 W c kind vY hn hk (hV.trans x0) hc h3);obtain ⟨B,hB⟩: ∃B,B=V.heap.size:=⟨_,rfl⟩;rw [←hB]at A0;have pG:=ae x0;have HB:=ae hB;have k0:=ai.at A0;clear hW x0 Z0 h CN Ap Ct Cu hn hc hV hsz A0 h3 hK J9 hk;go_enter func53,ntmps53
 go_upto_region 1 with fail
 rw [Py.o,←hB];clear hB;go_wp2_with fail
 refine Hj.o.mono ?_;rintro e2 W2 ⟨a,cap,rfl,hS,x2,jU⟩;obtain ⟨b,o,rfl,Zm⟩:=hS.cell i hi;rw [CO.o]at Zm
 have KL:b≠K:=by
  have:=jU _ rfl;simp only at this;have h1:=pG.o.size;have h2:=HKl.o
  omega
 have hle:=hS.le;have dy:=hS.cap
 rw [List.length_map]at hle;have f_:(0:Int)≤(i:Int):=by omega
 have fU:(i:Int)<(vY.length:Int):=by omega
 have HS:=ae hS;have fg:=ae (pG.o.trans x2)
 clear k0 hS x2 jU Hj;go_wp2_with fail
 refine (Qw.o _).mono ?_;rintro e3 W3 ⟨rfl,rfl⟩;go_wp2_with fail
 refine (Qv.o _ (HH.o.ext fg.o)).mono ?_;rintro e4 W4 ⟨rfl,Hk,j8⟩;have Mf:=ae Hk;have qX:=ae ((fg.o.but K).trans j8)
 have Zn:=ae (HS.o.but j8 (fun p e=>by cases e;exact KL));clear Zm Hk j8 HS fg;go_wp2_with fail
 go_loopw [9] (fun ii wr=> ∃k:Nat,k≤i∧FE wr K (nd e1 ((prev.take k).all fun p=>CL p nm) 10)∧ar K V wr∧j7 wr (some ⟨b,o,none⟩) cap vY∧ii= .int .i64 k) (fun ii _=>i-(intOf ii).toNat)
 case atStart=>exact ⟨0,Nat.zero_le _,by simpa [bI]using Mf.o,qX.o,Zn.o,rfl⟩
 case round=>
  obtain ⟨k,hk,hF,hX,hS,rfl⟩:=hrel;clear Mf qX Zn;by_cases hlt:k<i
  ·obtain ⟨b',o',e',g0⟩:=hS.cell k (by omega)
   cases e'
   obtain ⟨b',o',e',g1⟩:=hS.cell i hi;cases e'
   rw [CO.o]at g1;have hkp:k<prev.length:=by rw [xy.o];exact hlt
   have Zo:vY[k]'(by omega)=prev[k]:=by
    have h5:=HPV.o;subst h5;rw [List.getElem_take]
   rw [Zo]at g0;have ni:=ae (Hi prev (fun p=>CL p nm) k hkp);generalize prev[k]=p at*;generalize (prev.take k).all (fun p=>CL p nm)=q at*;have GK:=ae (fun U (hU:FE U K (nd e1 q 10))=>cf U K (nd e1 q 10) (CL p nm) kind i 0 10 hU);have HF:=ae hF;have py:=ae hX;have Qx:=ae hS
   have Qs:(0:Int)≤(k:Int):=by omega
   have Ni:(k:Int)<(vY.length:Int):=by omega
   clear hF hX hS Zo;have g0:wr.drew.cell? ⟨b,o+k,none⟩=some (.string p):=g0;have g1:wr.drew.cell? ⟨b,o+i,none⟩=some (.string nm):=g1;unfold CL at GK;go_wp2_with fail
   refine aB (fun w'=>w'.cell? ⟨b,o+k,none⟩=some (.string p)∧w'.cell? ⟨b,o+i,none⟩=some (.string nm)) (fun w'=>True) (fun i=>false) (by kernel_rfl) (⟨g0,g1⟩) (trivial) (fun aq ah=> ?_);refine ay 0 aq ah ?_;refine ay 1 aq ah ?_;refine ay 2 aq ah ?_ (v:= .int .i64 (k:Int));refine ay 3 aq ah ?_;refine ay 4 aq ah ?_ (v:= .string p);refine ay 5 aq ah ?_;refine ay 6 aq ah ?_ (v:= .int .i64 (i:Int));refine ay 7 aq ah ?_;refine ay 8 aq ah ?_ (v:= .string nm);refine ay 9 aq ah ?_ (v:= .bool (!(p.toList==nm.toList)));refine ay 10 aq ah ?_ (v:=i64 kind);refine ay 11 aq ah ?_ (v:= .int .i64 (i:Int));refine dX 12 rfl (fun Kc hK=> ?_);go_simp;refine (GK.o wr.drew (HF.o.ext (Ext.refl _).drew)).mono ?_;rintro e5 W5 ⟨rfl,Hl,eY⟩;refine hK.o _ _ (⟨bL (aj (Ext.refl wr).drew g0) eY KL,bL (aj (Ext.refl wr).drew g1) eY KL⟩) (trivial) (fun aq ah=> ?_);clear hK Kc;try simp only [sS]
   refine ax (by kernel_rfl) ?_ _;clear aq ah
   have VC:Hid (FE W5 K (nd e1 (q&&CL p nm) 10)):=by
    show FE _ _ _;rw [←mI _ _ _ _ (by decide)];exact Hl
   have wm:Hid (ar K V W5):=py.o.trans (((Ext.refl wr).drew.but K).trans eY);have HS5:Hid (j7 W5 (some ⟨b,o,none⟩) cap vY):=j7.but (bS.ext Qx.o (Ext.refl wr).drew) eY (fun p e=>by cases e;exact KL);clear Hl eY g0 g1;go_wp2_with fail
   exact ⟨⟨k+1,by omega,by rw [ni.o];exact VC.o,wm.o,HS5.o,by go_num⟩,by simp only [intOf];omega⟩
  ·obtain rfl:k=i:=by omega
   rw [List.take_of_length_le (by rw [xy.o];exact Nat.le_refl _)]at hF;go_wp2_with fail
   exact bodyPost_end (v:= .tuple #[]) (by simp [results,results53,go_sem]) rfl ⟨rfl,hF,hX⟩
def lU (kind:Int):Int:=if kind=2 then 64 else if kind=3 then 16 else if kind=4 then 8 else if kind=5 then 8 else 64
theorem Hm (V:World) (kind:Int) (h:2≤kind∧kind≤6):
 Calls prog 96 #[i64 kind] V fun e w'=>e= .returned (i64 (lU kind))∧Ext V w':=by
 rcases (show kind=2∨kind=3∨kind=4∨kind=5∨kind=6 by omega)with e|e|e|e|e<;>subst e
 all_goals
  go_enter func96,ntmps96
  go_wp2_with fail
  go_ret;exact ⟨rfl,(Ext.refl _).alloc _⟩
end Go.Proofs.YtkpngkdgphojlaaGreat
