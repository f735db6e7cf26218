/- Texts of the proof. -/
import Derived.Test.YtkpngkdgphojlaaGreatCc3
set_option linter.all false
namespace Go.Proofs.YtkpngkdgphojlaaGreat
open Go.RowKit
theorem sW {m:Nat}: ∀(rows:List (List Value)),(∀r∈rows,r.length=m)→ ∀(i j:Nat) (hi:i<rows.length),j<m→rows.flatten[i*m+j]?=(rows[i])[j]?
 | [],_,i,_,hi,_=>absurd hi (Nat.not_lt_zero _)
 |r::rows,h,0,j,_,hj=>by
  have hr:=h r (by simp);rw [List.flatten_cons,Nat.zero_mul,Nat.zero_add,List.getElem?_append_left (by omega)];rfl
 |r::rows,h,i+1,j,hi,hj=>by
  have hr:=h r (by simp);have h2:=sW rows (fun x hx=>h x (by simp [hx])) i j (by simpa using hi) hj;rw [List.flatten_cons,List.getElem?_append_right (by rw [hr,Nat.succ_mul];omega),hr,show(i+1)*m+j-m=i*m+j by rw [Nat.succ_mul];omega,h2];rfl
theorem gV {m:Nat}: ∀(rows:List (List Value)),(∀r∈rows,r.length=m)→rows.flatten.length=rows.length*m
 | [],_=>by simp
 |r::rows,h=>by rw [List.flatten_cons,List.length_append,gV rows (fun x hx=>h x (by simp [hx])),h r (by simp),List.length_cons,Nat.succ_mul];omega
structure aH (w:World) (B:Nat) (e:TypeId) (m:Nat) (v:Value) (rows:List (List Value)):Prop where
 own:w.ownsRow B e m v rows.length rows.flatten
 len: ∀r∈rows,r.length=m
theorem aH.nil (w:World) (B:Nat) (e:TypeId) (m:Nat):aH w B e m (.slice none 0 0) []:=⟨⟨by simp,.inl ⟨rfl,rfl⟩⟩,fun _ h=>by cases h⟩
theorem aH.ext {w w':World} {B:Nat} {e:TypeId} {m:Nat} {v:Value} {rows:List (List Value)} (h:aH w B e m v rows) (x:Ext w w'):aH w' B e m v rows:=⟨bG h.own x,h.len⟩
theorem aH.snoc {w w':World} {B:Nat} {e:TypeId} {m:Nat} {v v':Value} {rows:List (List Value)} {r:List Value} (h:aH w B e m v rows) (hr:r.length=m) (hn:w'.ownsRow B e m v' (rows.length+1) (rows.flatten++r)):aH w' B e m v' (rows++ [r]):=
 ⟨by rw [List.length_append,List.flatten_append];simpa using hn,fun x hx=>by rcases List.mem_append.1 hx with h1|h1;exact h.len x h1;rw [List.mem_singleton]at h1;rw [h1];exact hr⟩
theorem aH.recs {w:World} {B:Nat} {e:TypeId} {m:Nat} {v:Value} {rows:List (List Value)} (h:aH w B e m v rows) (hm:0<m): ∃a c,v= .slice a rows.length c∧bP w m a c rows∧Fr B a:=by
 have hfl:=gV rows h.len;rcases h.own.2 with⟨rfl,h0⟩|⟨g,cap,cur,rfl,hb,hg,hn,di,hcs,lK⟩
 ·refine ⟨none,0,?_,⟨by omega,by omega,fun i hi=>by omega⟩,Fr.none _⟩
  rw [h0]
 ·refine ⟨some ⟨g,0,none⟩,cap,rfl,⟨hn,by unfold maxLen at di;omega,fun i hi=>⟨g,0,rfl,fun j hj=> ?_⟩⟩,Fr.some hb⟩
  have hlen:=h.len rows[i] (List.getElem_mem hi);have hj':j<m:=by omega
  have h2:=sW rows h.len i j hi hj';rw [←lK,List.getElem?_take]at h2
  have hlt:i*m+j<rows.length*m:=by
   have:(i+1)*m≤rows.length*m:=Nat.mul_le_mul_right _ hi;rw [Nat.succ_mul]at this;omega
  rw [if_pos hlt,List.getElem?_eq_getElem hj]at h2;simp only [World.cell?,hg,Nat.zero_add];simpa using h2
theorem Tryz.info_string:(Tryz.prog.info? 9).map (fun i=>(i.zero,i.size,i.bytes))=some (some (.string ByteArray.empty),1,16):=by kernel_rfl
abbrev jD (w:World) (a:Option Addr) (c:Nat) (l:List ByteArray):Prop:=bP w 1 a c (l.map fun s=> [.string s])
theorem jD.cell {w:World} {a:Option Addr} {c:Nat} {l:List ByteArray} (h:jD w a c l) (i:Nat) (hi:i<l.length): ∃b o,a=some ⟨b,o,none⟩∧w.cell? ⟨b,o+i,none⟩=some (.string l[i]):=by
 obtain ⟨b,o,ha,hc⟩:=bP.cell h i (by simpa using hi);refine ⟨b,o,ha,?_⟩;have:=hc 0 (by simp);simpa using this
def df (c:aq) (kind:Int):List ByteArray:=if kind=1 then c.au.map cN.name else if kind=2 then c.lines.map aS.name else if kind=3 then c.aj.map aF.name else if kind=4 then c.stores.map bp.name else if kind=5 then c.aN.map dW.name else if kind=6 then c.outs.map bI.name else []
theorem nT (c:aq):df c 1=c.au.map cN.name:=by unfold df;rw [if_pos rfl]
theorem nU (c:aq):df c 2=c.lines.map aS.name:=by unfold df;rw [if_neg (by decide),if_pos rfl]
theorem nV (c:aq):df c 3=c.aj.map aF.name:=by unfold df;rw [if_neg (by decide),if_neg (by decide),if_pos rfl]
theorem mv (c:aq):df c 4=c.stores.map bp.name:=by unfold df;rw [if_neg (by decide),if_neg (by decide),if_neg (by decide),if_pos rfl]
theorem oU (c:aq):df c 5=c.aN.map dW.name:=by unfold df;rw [if_neg (by decide),if_neg (by decide),if_neg (by decide),if_neg (by decide),if_pos rfl]
theorem oV (c:aq):df c 6=c.outs.map bI.name:=by unfold df;rw [if_neg (by decide),if_neg (by decide),if_neg (by decide),if_neg (by decide),if_neg (by decide),if_pos rfl]
set_option maxHeartbeats 1000000 in
set_option maxRecDepth 100000 in
theorem rH (w0 V:World) (c:aq) (hV:Ext w0 V) (hc:aT w0 c) (hn:c.au.length≤1000000):
 Calls Tryz.prog 95 #[.agg (C8 c),i64 1] V fun e w'=> ∃a cap,e= .returned (.slice a c.au.length cap)∧jD w' a cap (c.au.map cN.name)∧Ext V w'∧Fr V.heap.size a:=by
 try unfold C8
 have hr:=hc.au;have hle:=hr.le;have di:=hr.cap
 rw [List.length_map]at hle;have HR:=ae hr;have HV:=ae hV;have HN:=ae hn
 clear hc hr hV hn;go_enter Tryz.func95,Tryz.ntmps95
 go_upto_region 1 with fail
 obtain ⟨W,hW,x0,Z0,A0⟩:=aB V 32 c.cells;rw [show V.alloc (.cells (C8 c) 32)=W from hW.symm];clear hW;have HA:=ae A0;have HX:=ae x0
 obtain ⟨B,hB⟩: ∃B,B=V.heap.size:=⟨_,rfl⟩;rw [←hB]at HA⊢;clear A0 x0 Z0 hB;go_wp2_with fail
 go_loopw [5,6] (fun v ii wr=> ∃i:Nat,i≤c.au.length∧aH wr W.heap.size 9 1 v ((c.au.take i).map fun x=> [.string x.name])∧Ext W wr∧ii= .int .i64 i) (fun _ ii _=>c.au.length-(intOf ii).toNat)
 case atStart=>exact ⟨0,Nat.zero_le _,aH.nil _ _ _ _,Ext.refl _,rfl⟩
 case round=>
  obtain ⟨i,hi,hown,hE,rfl⟩:=hrel;have HO:=ae hown;obtain ⟨-,-,k2,k3,k4,k5,k6,k7⟩:=aq.at (HA.out.ext hE);clear hown;by_cases hlt:i<c.au.length
  ·obtain ⟨b,o,ha,c0,-⟩:=((HR.out.ext HV.out).ext (HX.out.trans hE)).au i hlt
   have HST:Hid ((c.au.take (i+1)).map (fun x=> [Value.string x.name])=(c.au.take i).map (fun x=> [Value.string x.name])++ [[.string c.au[i].name]]):=by
    show _=_;rw [List.take_succ_eq_append_getElem hlt,List.map_append];rfl
   generalize c.au[i].name=nm at*;rw [ha]at k2;have HLEN:Hid (((c.au.take i).map fun x=> [Value.string x.name]).length=i):=by show _=_;simp;omega
   generalize (c.au.take i).map (fun x=> [Value.string x.name])=rows at*;have fM:(0:Int)≤(i:Int):=by omega
   have fH:(i:Int)<(c.au.length:Int):=by omega
   have HE:=ae hE;have se:=hE.size
   clear ha hE k3 k4 k5 k6 k7
   have HOW:Hid (wr.ownsRow W.heap.size 9 1 u5 i rows.flatten):=by
    have h5:=HO.out.own;rw [HLEN.out]at h5;exact h5
   go_wp2_with (at_builtin;refine aV _ rfl (.tmp 22) (.tmp 29) 156 rfl W.heap.size 9 (.string ByteArray.empty) 1 16 Tryz.underlying156 Tryz.info_string rfl (by decide) u5 i rows.flatten rfl ?c1 (some ⟨wr.heap.size,0,none⟩) 1 1 [.string nm] rfl rfl ?c2 ?c3 ?c4 ?c5 (by decide) ?c6 ?_;rotate_right;intro v1 w5 ho he hb hz hv)
   case c1=>exact bG HOW.out ((Ext.refl _).alloc _)
   case c2=>exact fun _=>⟨_,rfl,cC wr 9 [.string nm]⟩
   case c3=>intro u hu;rw [List.mem_singleton]at hu;subst hu;rfl
   case c4=>intro e;cases e
   case c5=>have:=HN.out;omega
   case c6=>have:=se;simp;omega
   have x5:Ext W w5:=he.out W (HE.out.alloc _) (Nat.le_refl _);have iC:=HO.out.snoc (w':=w5) (v':=v1) (r:= [.string nm]) rfl (by rw [HLEN.out];exact ho.out);rw [←HST.out]at iC;exact ⟨⟨i+1,by omega,iC,x5,by go_num⟩,by simp only [intOf];omega⟩
  ·obtain rfl:i=c.au.length:=by omega
   rw [List.take_length]at HO;obtain ⟨a,cap,rfl,hS,jU⟩:=HO.out.recs (by decide);have e1:(c.au.map fun x=> [Value.string x.name])=(c.au.map cN.name).map fun s=> [Value.string s]:=by rw [List.map_map];rfl
   rw [e1]at hS;have HS:=ae hS;have sj:=ae jU
   rw [List.length_map];clear hS e1 HO jU;go_wp2_with fail
   go_ret;exact ⟨a,cap,rfl,HS.out,HX.out.trans hE,sj.out.mono HX.out.size⟩
set_option maxHeartbeats 1000000 in
set_option maxRecDepth 100000 in
theorem rI (w0 V:World) (c:aq) (hV:Ext w0 V) (hc:aT w0 c) (hn:c.lines.length≤1000000):
 Calls Tryz.prog 95 #[.agg (C8 c),i64 2] V fun e w'=> ∃a cap,e= .returned (.slice a c.lines.length cap)∧jD w' a cap (c.lines.map aS.name)∧Ext V w'∧Fr V.heap.size a:=by
 try unfold C8
 have hr:=hc.lines;have hle:=hr.le;have di:=hr.cap
 rw [List.length_map]at hle;have HR:=ae hr;have HV:=ae hV;have HN:=ae hn
 clear hc hr hV hn;go_enter Tryz.func95,Tryz.ntmps95
 go_upto_region 1 with fail
 obtain ⟨W,hW,x0,Z0,A0⟩:=aB V 32 c.cells;rw [show V.alloc (.cells (C8 c) 32)=W from hW.symm];clear hW;have HA:=ae A0;have HX:=ae x0
 obtain ⟨B,hB⟩: ∃B,B=V.heap.size:=⟨_,rfl⟩;rw [←hB]at HA⊢;clear A0 x0 Z0 hB;go_wp2_with fail
 go_loopw [5,7] (fun v ii wr=> ∃i:Nat,i≤c.lines.length∧aH wr W.heap.size 9 1 v ((c.lines.take i).map fun x=> [.string x.name])∧Ext W wr∧ii= .int .i64 i) (fun _ ii _=>c.lines.length-(intOf ii).toNat)
 case atStart=>exact ⟨0,Nat.zero_le _,aH.nil _ _ _ _,Ext.refl _,rfl⟩
 case round=>
  obtain ⟨i,hi,hown,hE,rfl⟩:=hrel;have HO:=ae hown;obtain ⟨-,-,k2,k3,k4,k5,k6,k7⟩:=aq.at (HA.out.ext hE);clear hown;by_cases hlt:i<c.lines.length
  ·obtain ⟨b,o,ha,c0,-⟩:=((HR.out.ext HV.out).ext (HX.out.trans hE)).lines i hlt
   have HST:Hid ((c.lines.take (i+1)).map (fun x=> [Value.string x.name])=(c.lines.take i).map (fun x=> [Value.string x.name])++ [[.string c.lines[i].name]]):=by
    show _=_;rw [List.take_succ_eq_append_getElem hlt,List.map_append];rfl
   generalize c.lines[i].name=nm at*;rw [ha]at k3;have HLEN:Hid (((c.lines.take i).map fun x=> [Value.string x.name]).length=i):=by show _=_;simp;omega
   generalize (c.lines.take i).map (fun x=> [Value.string x.name])=rows at*;have fM:(0:Int)≤(i:Int):=by omega
   have fH:(i:Int)<(c.lines.length:Int):=by omega
   have HE:=ae hE;have se:=hE.size
   clear ha hE k2 k4 k5 k6 k7
   have HOW:Hid (wr.ownsRow W.heap.size 9 1 u5 i rows.flatten):=by
    have h5:=HO.out.own;rw [HLEN.out]at h5;exact h5
   go_wp2_with (at_builtin;refine aV _ rfl (.tmp 40) (.tmp 47) 156 rfl W.heap.size 9 (.string ByteArray.empty) 1 16 Tryz.underlying156 Tryz.info_string rfl (by decide) u5 i rows.flatten rfl ?c1 (some ⟨wr.heap.size,0,none⟩) 1 1 [.string nm] rfl rfl ?c2 ?c3 ?c4 ?c5 (by decide) ?c6 ?_;rotate_right;intro v1 w5 ho he hb hz hv)
   case c1=>exact bG HOW.out ((Ext.refl _).alloc _)
   case c2=>exact fun _=>⟨_,rfl,cC wr 9 [.string nm]⟩
   case c3=>intro u hu;rw [List.mem_singleton]at hu;subst hu;rfl
   case c4=>intro e;cases e
   case c5=>have:=HN.out;omega
   case c6=>have:=se;simp;omega
   have x5:Ext W w5:=he.out W (HE.out.alloc _) (Nat.le_refl _);have iC:=HO.out.snoc (w':=w5) (v':=v1) (r:= [.string nm]) rfl (by rw [HLEN.out];exact ho.out);rw [←HST.out]at iC;exact ⟨⟨i+1,by omega,iC,x5,by go_num⟩,by simp only [intOf];omega⟩
  ·obtain rfl:i=c.lines.length:=by omega
   rw [List.take_length]at HO;obtain ⟨a,cap,rfl,hS,jU⟩:=HO.out.recs (by decide);have e1:(c.lines.map fun x=> [Value.string x.name])=(c.lines.map aS.name).map fun s=> [Value.string s]:=by rw [List.map_map];rfl
   rw [e1]at hS;have HS:=ae hS;have sj:=ae jU
   rw [List.length_map];clear hS e1 HO jU;go_wp2_with fail
   go_ret;exact ⟨a,cap,rfl,HS.out,HX.out.trans hE,sj.out.mono HX.out.size⟩
set_option maxHeartbeats 1000000 in
set_option maxRecDepth 100000 in
theorem rJ (w0 V:World) (c:aq) (hV:Ext w0 V) (hc:aT w0 c) (hn:c.aj.length≤1000000):
 Calls Tryz.prog 95 #[.agg (C8 c),i64 3] V fun e w'=> ∃a cap,e= .returned (.slice a c.aj.length cap)∧jD w' a cap (c.aj.map aF.name)∧Ext V w'∧Fr V.heap.size a:=by
 try unfold C8
 have hr:=hc.aj;have hle:=hr.le;have di:=hr.cap
 rw [List.length_map]at hle;have HR:=ae hr;have HV:=ae hV;have HN:=ae hn
 clear hc hr hV hn;go_enter Tryz.func95,Tryz.ntmps95
 go_upto_region 1 with fail
 obtain ⟨W,hW,x0,Z0,A0⟩:=aB V 32 c.cells;rw [show V.alloc (.cells (C8 c) 32)=W from hW.symm];clear hW;have HA:=ae A0;have HX:=ae x0
 obtain ⟨B,hB⟩: ∃B,B=V.heap.size:=⟨_,rfl⟩;rw [←hB]at HA⊢;clear A0 x0 Z0 hB;go_wp2_with fail
 go_loopw [5,8] (fun v ii wr=> ∃i:Nat,i≤c.aj.length∧aH wr W.heap.size 9 1 v ((c.aj.take i).map fun x=> [.string x.name])∧Ext W wr∧ii= .int .i64 i) (fun _ ii _=>c.aj.length-(intOf ii).toNat)
 case atStart=>exact ⟨0,Nat.zero_le _,aH.nil _ _ _ _,Ext.refl _,rfl⟩
 case round=>
  obtain ⟨i,hi,hown,hE,rfl⟩:=hrel;have HO:=ae hown;obtain ⟨-,-,k2,k3,k4,k5,k6,k7⟩:=aq.at (HA.out.ext hE);clear hown;by_cases hlt:i<c.aj.length
  ·obtain ⟨b,o,ha,c0,-⟩:=((HR.out.ext HV.out).ext (HX.out.trans hE)).aj i hlt
   have HST:Hid ((c.aj.take (i+1)).map (fun x=> [Value.string x.name])=(c.aj.take i).map (fun x=> [Value.string x.name])++ [[.string c.aj[i].name]]):=by
    show _=_;rw [List.take_succ_eq_append_getElem hlt,List.map_append];rfl
   generalize c.aj[i].name=nm at*;rw [ha]at k4;have HLEN:Hid (((c.aj.take i).map fun x=> [Value.string x.name]).length=i):=by show _=_;simp;omega
   generalize (c.aj.take i).map (fun x=> [Value.string x.name])=rows at*;have fM:(0:Int)≤(i:Int):=by omega
   have fH:(i:Int)<(c.aj.length:Int):=by omega
   have HE:=ae hE;have se:=hE.size
   clear ha hE k2 k3 k5 k6 k7
   have HOW:Hid (wr.ownsRow W.heap.size 9 1 u5 i rows.flatten):=by
    have h5:=HO.out.own;rw [HLEN.out]at h5;exact h5
   go_wp2_with (at_builtin;refine aV _ rfl (.tmp 58) (.tmp 65) 156 rfl W.heap.size 9 (.string ByteArray.empty) 1 16 Tryz.underlying156 Tryz.info_string rfl (by decide) u5 i rows.flatten rfl ?c1 (some ⟨wr.heap.size,0,none⟩) 1 1 [.string nm] rfl rfl ?c2 ?c3 ?c4 ?c5 (by decide) ?c6 ?_;rotate_right;intro v1 w5 ho he hb hz hv)
   case c1=>exact bG HOW.out ((Ext.refl _).alloc _)
   case c2=>exact fun _=>⟨_,rfl,cC wr 9 [.string nm]⟩
   case c3=>intro u hu;rw [List.mem_singleton]at hu;subst hu;rfl
   case c4=>intro e;cases e
   case c5=>have:=HN.out;omega
   case c6=>have:=se;simp;omega
   have x5:Ext W w5:=he.out W (HE.out.alloc _) (Nat.le_refl _);have iC:=HO.out.snoc (w':=w5) (v':=v1) (r:= [.string nm]) rfl (by rw [HLEN.out];exact ho.out);rw [←HST.out]at iC;exact ⟨⟨i+1,by omega,iC,x5,by go_num⟩,by simp only [intOf];omega⟩
  ·obtain rfl:i=c.aj.length:=by omega
   rw [List.take_length]at HO;obtain ⟨a,cap,rfl,hS,jU⟩:=HO.out.recs (by decide);have e1:(c.aj.map fun x=> [Value.string x.name])=(c.aj.map aF.name).map fun s=> [Value.string s]:=by rw [List.map_map];rfl
   rw [e1]at hS;have HS:=ae hS;have sj:=ae jU
   rw [List.length_map];clear hS e1 HO jU;go_wp2_with fail
   go_ret;exact ⟨a,cap,rfl,HS.out,HX.out.trans hE,sj.out.mono HX.out.size⟩
set_option maxHeartbeats 1000000 in
set_option maxRecDepth 100000 in
theorem p_ (w0 V:World) (c:aq) (hV:Ext w0 V) (hc:aT w0 c) (hn:c.stores.length≤1000000):
 Calls Tryz.prog 95 #[.agg (C8 c),i64 4] V fun e w'=> ∃a cap,e= .returned (.slice a c.stores.length cap)∧jD w' a cap (c.stores.map bp.name)∧Ext V w'∧Fr V.heap.size a:=by
 try unfold C8
 have hr:=hc.stores;have hle:=hr.le;have di:=hr.cap
 rw [List.length_map]at hle;have HR:=ae hr;have HV:=ae hV;have HN:=ae hn
 clear hc hr hV hn;go_enter Tryz.func95,Tryz.ntmps95
 go_upto_region 1 with fail
 obtain ⟨W,hW,x0,Z0,A0⟩:=aB V 32 c.cells;rw [show V.alloc (.cells (C8 c) 32)=W from hW.symm];clear hW;have HA:=ae A0;have HX:=ae x0
 obtain ⟨B,hB⟩: ∃B,B=V.heap.size:=⟨_,rfl⟩;rw [←hB]at HA⊢;clear A0 x0 Z0 hB;go_wp2_with fail
 go_loopw [5,9] (fun v ii wr=> ∃i:Nat,i≤c.stores.length∧aH wr W.heap.size 9 1 v ((c.stores.take i).map fun x=> [.string x.name])∧Ext W wr∧ii= .int .i64 i) (fun _ ii _=>c.stores.length-(intOf ii).toNat)
 case atStart=>exact ⟨0,Nat.zero_le _,aH.nil _ _ _ _,Ext.refl _,rfl⟩
 case round=>
  obtain ⟨i,hi,hown,hE,rfl⟩:=hrel;have HO:=ae hown;obtain ⟨-,-,k2,k3,k4,k5,k6,k7⟩:=aq.at (HA.out.ext hE);clear hown;by_cases hlt:i<c.stores.length
  ·obtain ⟨b,o,ha,c0,-⟩:=((HR.out.ext HV.out).ext (HX.out.trans hE)).stores i hlt
   have HST:Hid ((c.stores.take (i+1)).map (fun x=> [Value.string x.name])=(c.stores.take i).map (fun x=> [Value.string x.name])++ [[.string c.stores[i].name]]):=by
    show _=_;rw [List.take_succ_eq_append_getElem hlt,List.map_append];rfl
   generalize c.stores[i].name=nm at*;rw [ha]at k5;have HLEN:Hid (((c.stores.take i).map fun x=> [Value.string x.name]).length=i):=by show _=_;simp;omega
   generalize (c.stores.take i).map (fun x=> [Value.string x.name])=rows at*;have fM:(0:Int)≤(i:Int):=by omega
   have fH:(i:Int)<(c.stores.length:Int):=by omega
   have HE:=ae hE;have se:=hE.size
   clear ha hE k2 k3 k4 k6 k7
   have HOW:Hid (wr.ownsRow W.heap.size 9 1 u5 i rows.flatten):=by
    have h5:=HO.out.own;rw [HLEN.out]at h5;exact h5
   go_wp2_with (at_builtin;refine aV _ rfl (.tmp 76) (.tmp 83) 156 rfl W.heap.size 9 (.string ByteArray.empty) 1 16 Tryz.underlying156 Tryz.info_string rfl (by decide) u5 i rows.flatten rfl ?c1 (some ⟨wr.heap.size,0,none⟩) 1 1 [.string nm] rfl rfl ?c2 ?c3 ?c4 ?c5 (by decide) ?c6 ?_;rotate_right;intro v1 w5 ho he hb hz hv)
   case c1=>exact bG HOW.out ((Ext.refl _).alloc _)
   case c2=>exact fun _=>⟨_,rfl,cC wr 9 [.string nm]⟩
   case c3=>intro u hu;rw [List.mem_singleton]at hu;subst hu;rfl
   case c4=>intro e;cases e
   case c5=>have:=HN.out;omega
   case c6=>have:=se;simp;omega
   have x5:Ext W w5:=he.out W (HE.out.alloc _) (Nat.le_refl _);have iC:=HO.out.snoc (w':=w5) (v':=v1) (r:= [.string nm]) rfl (by rw [HLEN.out];exact ho.out);rw [←HST.out]at iC;exact ⟨⟨i+1,by omega,iC,x5,by go_num⟩,by simp only [intOf];omega⟩
  ·obtain rfl:i=c.stores.length:=by omega
   rw [List.take_length]at HO;obtain ⟨a,cap,rfl,hS,jU⟩:=HO.out.recs (by decide);have e1:(c.stores.map fun x=> [Value.string x.name])=(c.stores.map bp.name).map fun s=> [Value.string s]:=by rw [List.map_map];rfl
   rw [e1]at hS;have HS:=ae hS;have sj:=ae jU
   rw [List.length_map];clear hS e1 HO jU;go_wp2_with fail
   go_ret;exact ⟨a,cap,rfl,HS.out,HX.out.trans hE,sj.out.mono HX.out.size⟩
set_option maxHeartbeats 1000000 in
set_option maxRecDepth 100000 in
theorem sX (w0 V:World) (c:aq) (hV:Ext w0 V) (hc:aT w0 c) (hn:c.aN.length≤1000000):
 Calls Tryz.prog 95 #[.agg (C8 c),i64 5] V fun e w'=> ∃a cap,e= .returned (.slice a c.aN.length cap)∧jD w' a cap (c.aN.map dW.name)∧Ext V w'∧Fr V.heap.size a:=by
 try unfold C8
 have hr:=hc.aN;have hle:=hr.le;have di:=hr.cap
 rw [List.length_map]at hle;have HR:=ae hr;have HV:=ae hV;have HN:=ae hn
 clear hc hr hV hn;go_enter Tryz.func95,Tryz.ntmps95
 go_upto_region 1 with fail
 obtain ⟨W,hW,x0,Z0,A0⟩:=aB V 32 c.cells;rw [show V.alloc (.cells (C8 c) 32)=W from hW.symm];clear hW;have HA:=ae A0;have HX:=ae x0
 obtain ⟨B,hB⟩: ∃B,B=V.heap.size:=⟨_,rfl⟩;rw [←hB]at HA⊢;clear A0 x0 Z0 hB;go_wp2_with fail
 go_loopw [5,10] (fun v ii wr=> ∃i:Nat,i≤c.aN.length∧aH wr W.heap.size 9 1 v ((c.aN.take i).map fun x=> [.string x.name])∧Ext W wr∧ii= .int .i64 i) (fun _ ii _=>c.aN.length-(intOf ii).toNat)
 case atStart=>exact ⟨0,Nat.zero_le _,aH.nil _ _ _ _,Ext.refl _,rfl⟩
 case round=>
  obtain ⟨i,hi,hown,hE,rfl⟩:=hrel;have HO:=ae hown;obtain ⟨-,-,k2,k3,k4,k5,k6,k7⟩:=aq.at (HA.out.ext hE);clear hown;by_cases hlt:i<c.aN.length
  ·obtain ⟨b,o,ha,c0,-⟩:=((HR.out.ext HV.out).ext (HX.out.trans hE)).aN i hlt
   have HST:Hid ((c.aN.take (i+1)).map (fun x=> [Value.string x.name])=(c.aN.take i).map (fun x=> [Value.string x.name])++ [[.string c.aN[i].name]]):=by
    show _=_;rw [List.take_succ_eq_append_getElem hlt,List.map_append];rfl
   generalize c.aN[i].name=nm at*;rw [ha]at k6;have HLEN:Hid (((c.aN.take i).map fun x=> [Value.string x.name]).length=i):=by show _=_;simp;omega
   generalize (c.aN.take i).map (fun x=> [Value.string x.name])=rows at*;have fM:(0:Int)≤(i:Int):=by omega
   have fH:(i:Int)<(c.aN.length:Int):=by omega
   have HE:=ae hE;have se:=hE.size
   clear ha hE k2 k3 k4 k5 k7
   have HOW:Hid (wr.ownsRow W.heap.size 9 1 u5 i rows.flatten):=by
    have h5:=HO.out.own;rw [HLEN.out]at h5;exact h5
   go_wp2_with (at_builtin;refine aV _ rfl (.tmp 94) (.tmp 101) 156 rfl W.heap.size 9 (.string ByteArray.empty) 1 16 Tryz.underlying156 Tryz.info_string rfl (by decide) u5 i rows.flatten rfl ?c1 (some ⟨wr.heap.size,0,none⟩) 1 1 [.string nm] rfl rfl ?c2 ?c3 ?c4 ?c5 (by decide) ?c6 ?_;rotate_right;intro v1 w5 ho he hb hz hv)
   case c1=>exact bG HOW.out ((Ext.refl _).alloc _)
   case c2=>exact fun _=>⟨_,rfl,cC wr 9 [.string nm]⟩
   case c3=>intro u hu;rw [List.mem_singleton]at hu;subst hu;rfl
   case c4=>intro e;cases e
   case c5=>have:=HN.out;omega
   case c6=>have:=se;simp;omega
   have x5:Ext W w5:=he.out W (HE.out.alloc _) (Nat.le_refl _);have iC:=HO.out.snoc (w':=w5) (v':=v1) (r:= [.string nm]) rfl (by rw [HLEN.out];exact ho.out);rw [←HST.out]at iC;exact ⟨⟨i+1,by omega,iC,x5,by go_num⟩,by simp only [intOf];omega⟩
  ·obtain rfl:i=c.aN.length:=by omega
   rw [List.take_length]at HO;obtain ⟨a,cap,rfl,hS,jU⟩:=HO.out.recs (by decide);have e1:(c.aN.map fun x=> [Value.string x.name])=(c.aN.map dW.name).map fun s=> [Value.string s]:=by rw [List.map_map];rfl
   rw [e1]at hS;have HS:=ae hS;have sj:=ae jU
   rw [List.length_map];clear hS e1 HO jU;go_wp2_with fail
   go_ret;exact ⟨a,cap,rfl,HS.out,HX.out.trans hE,sj.out.mono HX.out.size⟩
set_option maxHeartbeats 1000000 in
set_option maxRecDepth 100000 in
theorem sY (w0 V:World) (c:aq) (hV:Ext w0 V) (hc:aT w0 c) (hn:c.outs.length≤1000000):
 Calls Tryz.prog 95 #[.agg (C8 c),i64 6] V fun e w'=> ∃a cap,e= .returned (.slice a c.outs.length cap)∧jD w' a cap (c.outs.map bI.name)∧Ext V w'∧Fr V.heap.size a:=by
 try unfold C8
 have hr:=hc.outs;have hle:=hr.le;have di:=hr.cap
 rw [List.length_map]at hle;have HR:=ae hr;have HV:=ae hV;have HN:=ae hn
 clear hc hr hV hn;go_enter Tryz.func95,Tryz.ntmps95
 go_upto_region 1 with fail
 obtain ⟨W,hW,x0,Z0,A0⟩:=aB V 32 c.cells;rw [show V.alloc (.cells (C8 c) 32)=W from hW.symm];clear hW;have HA:=ae A0;have HX:=ae x0
 obtain ⟨B,hB⟩: ∃B,B=V.heap.size:=⟨_,rfl⟩;rw [←hB]at HA⊢;clear A0 x0 Z0 hB;go_wp2_with fail
 go_loopw [5,11] (fun v ii wr=> ∃i:Nat,i≤c.outs.length∧aH wr W.heap.size 9 1 v ((c.outs.take i).map fun x=> [.string x.name])∧Ext W wr∧ii= .int .i64 i) (fun _ ii _=>c.outs.length-(intOf ii).toNat)
 case atStart=>exact ⟨0,Nat.zero_le _,aH.nil _ _ _ _,Ext.refl _,rfl⟩
 case round=>
  obtain ⟨i,hi,hown,hE,rfl⟩:=hrel;have HO:=ae hown;obtain ⟨-,-,k2,k3,k4,k5,k6,k7⟩:=aq.at (HA.out.ext hE);clear hown;by_cases hlt:i<c.outs.length
  ·obtain ⟨b,o,ha,c0,-⟩:=((HR.out.ext HV.out).ext (HX.out.trans hE)).outs i hlt
   have HST:Hid ((c.outs.take (i+1)).map (fun x=> [Value.string x.name])=(c.outs.take i).map (fun x=> [Value.string x.name])++ [[.string c.outs[i].name]]):=by
    show _=_;rw [List.take_succ_eq_append_getElem hlt,List.map_append];rfl
   generalize c.outs[i].name=nm at*;rw [ha]at k7;have HLEN:Hid (((c.outs.take i).map fun x=> [Value.string x.name]).length=i):=by show _=_;simp;omega
   generalize (c.outs.take i).map (fun x=> [Value.string x.name])=rows at*;have fM:(0:Int)≤(i:Int):=by omega
   have fH:(i:Int)<(c.outs.length:Int):=by omega
   have HE:=ae hE;have se:=hE.size
   clear ha hE k2 k3 k4 k5 k6
   have HOW:Hid (wr.ownsRow W.heap.size 9 1 u5 i rows.flatten):=by
    have h5:=HO.out.own;rw [HLEN.out]at h5;exact h5
   go_wp2_with (at_builtin;refine aV _ rfl (.tmp 112) (.tmp 119) 156 rfl W.heap.size 9 (.string ByteArray.empty) 1 16 Tryz.underlying156 Tryz.info_string rfl (by decide) u5 i rows.flatten rfl ?c1 (some ⟨wr.heap.size,0,none⟩) 1 1 [.string nm] rfl rfl ?c2 ?c3 ?c4 ?c5 (by decide) ?c6 ?_;rotate_right;intro v1 w5 ho he hb hz hv)
   case c1=>exact bG HOW.out ((Ext.refl _).alloc _)
   case c2=>exact fun _=>⟨_,rfl,cC wr 9 [.string nm]⟩
   case c3=>intro u hu;rw [List.mem_singleton]at hu;subst hu;rfl
   case c4=>intro e;cases e
   case c5=>have:=HN.out;omega
   case c6=>have:=se;simp;omega
   have x5:Ext W w5:=he.out W (HE.out.alloc _) (Nat.le_refl _);have iC:=HO.out.snoc (w':=w5) (v':=v1) (r:= [.string nm]) rfl (by rw [HLEN.out];exact ho.out);rw [←HST.out]at iC;exact ⟨⟨i+1,by omega,iC,x5,by go_num⟩,by simp only [intOf];omega⟩
  ·obtain rfl:i=c.outs.length:=by omega
   rw [List.take_length]at HO;obtain ⟨a,cap,rfl,hS,jU⟩:=HO.out.recs (by decide);have e1:(c.outs.map fun x=> [Value.string x.name])=(c.outs.map bI.name).map fun s=> [Value.string s]:=by rw [List.map_map];rfl
   rw [e1]at hS;have HS:=ae hS;have sj:=ae jU
   rw [List.length_map];clear hS e1 HO jU;go_wp2_with fail
   go_ret;exact ⟨a,cap,rfl,HS.out,HX.out.trans hE,sj.out.mono HX.out.size⟩
theorem vA (w0 V:World) (c:aq) (kind:Int) (sk:List ByteArray) (hn:df c kind=sk) (hk:1≤kind∧kind≤6) (hV:Ext w0 V) (hc:aT w0 c) (hl:sk.length≤1000000):
 Calls Tryz.prog 95 #[.agg (C8 c),i64 kind] V fun e w'=> ∃a cap,e= .returned (.slice a sk.length cap)∧jD w' a cap sk∧Ext V w'∧Fr V.heap.size a:=by
 try unfold C8
 rcases (show kind=1∨kind=2∨kind=3∨kind=4∨kind=5∨kind=6 by omega)with e|e|e|e|e|e<;>subst e
 ·rw [nT]at hn;subst hn;rw [List.length_map]at hl⊢;exact rH w0 V c hV hc hl
 ·rw [nU]at hn;subst hn;rw [List.length_map]at hl⊢;exact rI w0 V c hV hc hl
 ·rw [nV]at hn;subst hn;rw [List.length_map]at hl⊢;exact rJ w0 V c hV hc hl
 ·rw [mv]at hn;subst hn;rw [List.length_map]at hl⊢;exact p_ w0 V c hV hc hl
 ·rw [oU]at hn;subst hn;rw [List.length_map]at hl⊢;exact sX w0 V c hV hc hl
 ·rw [oV]at hn;subst hn;rw [List.length_map]at hl⊢;exact sY w0 V c hV hc hl
def eG (e:Int) (nm:ByteArray) (prev:List ByteArray):Int:=nd (nd e (cZ nm) 9) (prev.all fun p=>xN p nm) 10
theorem Fp (l:List ByteArray) (f:ByteArray→Bool) (k:Nat) (h:k<l.length):(l.take (k+1)).all f=((l.take k).all f&&f l[k]):=by
 rw [List.take_succ_eq_append_getElem h,List.all_append];simp
theorem jD.but {w w':World} {a:Option Addr} {c K:Nat} {l:List ByteArray} (h:jD w a c l) (x:ak K w w') (hb: ∀p,a=some p→p.block≠K):jD w' a c l:=
 ⟨h.le,h.cap,fun i hi=>by
   obtain ⟨b,o,ha,hc⟩:=bP.cell h i hi;exact ⟨b,o,ha,fun j hj=>aR (hc j hj) x (show b≠K from hb _ ha)⟩⟩
set_option maxHeartbeats 1000000 in
set_option maxRecDepth 100000 in
theorem kG (w0 V:World) (K:Nat) (c:aq) (e:Int) (kind:Int) (i:Nat) (prev sk:List ByteArray) (nm:ByteArray) (hn:df c kind=sk) (hk:1≤kind∧kind≤6) (h2: ∃h:i<sk.length,sk[i]=nm∧sk.take i=prev) (h3:sk.length≤1000000)
 (hK:w0.heap.size≤K) (hV:Ext w0 V) (hc:aT w0 c) (hsz:nm.size≤maxLen) (h:FE V K e):
 Calls Tryz.prog 53 #[.pointer (some ⟨K,0,none⟩),.agg (C8 c),i64 kind,i64 i] V fun e' w'=>rG V K (eG e nm prev) e' w':=by
 try unfold C8
 have vB:=h.lt;obtain ⟨hi,vx,iG⟩:=h2;have gW:prev.length=i:=by rw [←iG,List.length_take];omega
 unfold eG;obtain ⟨e1,Ac⟩: ∃e1,nd e (cZ nm) 9=e1:=⟨_,rfl⟩;rw [Ac];have O3:=ae (fun U (hU:FE U K e)=>aU U K e (cZ nm) kind i 0 9 hU);rw [Ac]at O3;have O4:=ae (fun U=>Fi U nm hsz);have HH:=ae h;have HKl:=ae vB;have HPV:=ae iG;have sq:=ae gW;have Az:=ae vx
 have hl3:sk.length≤1000000:=h3;obtain ⟨W,hW,x0,Z0,A0⟩:=aB V 32 c.cells;have KG:Hid (V.alloc (.cells (C8 c) 32)=W):=hW.symm;have Fq:=ae (vA w0 W c kind sk hn hk (hV.trans x0) hc h3);obtain ⟨B,hB⟩: ∃B,B=V.heap.size:=⟨_,rfl⟩;rw [←hB]at A0;have lW:=ae x0;have HB:=ae hB;obtain ⟨k0,k1,k2,k3,k4,k5,k6,k7⟩:=aq.at A0;clear hW x0 Z0 h iG gW vx Ac hn hc hV hsz A0 h3 hK vB hk;go_enter Tryz.func53,Tryz.ntmps53
 go_upto_region 1 with fail
 rw [KG.out,←hB];clear hB;go_wp2_with fail
 refine Fq.out.mono ?_;rintro e2 W2 ⟨a,cap,rfl,hS,x2,jU⟩;obtain ⟨b,o,rfl,Xk⟩:=hS.cell i hi;rw [Az.out]at Xk
 have EG:b≠K:=by
  have:=jU _ rfl;simp only at this;have h1:=lW.out.size;have h2:=HKl.out
  omega
 have hle:=hS.le;have di:=hS.cap
 rw [List.length_map]at hle;have fM:(0:Int)≤(i:Int):=by omega
 have fH:(i:Int)<(sk.length:Int):=by omega
 have HS:=ae hS;have dC:=ae (lW.out.trans x2)
 clear k0 k1 k2 k3 k4 k5 k6 k7 hS x2 jU Fq;go_wp2_with fail
 refine (O4.out _).mono ?_;rintro e3 W3 ⟨rfl,rfl⟩;go_wp2_with fail
 refine (O3.out _ (HH.out.ext dC.out)).mono ?_;rintro e4 W4 ⟨rfl,Fs,fN⟩;have KJ:=ae Fs;have nK:=ae ((dC.out.but K).trans fN)
 have Ck:=ae (HS.out.but fN (fun p e=>by cases e;exact EG));clear Xk Fs fN HS dC;go_wp2_with fail
 go_loopw [9] (fun ii wr=> ∃k:Nat,k≤i∧FE wr K (nd e1 ((prev.take k).all fun p=>xN p nm) 10)∧ak K V wr∧jD wr (some ⟨b,o,none⟩) cap sk∧ii= .int .i64 k) (fun ii _=>i-(intOf ii).toNat)
 case atStart=>exact ⟨0,Nat.zero_le _,by simpa [bk]using KJ.out,nK.out,Ck.out,rfl⟩
 case round=>
  obtain ⟨k,hk,hF,hX,hS,rfl⟩:=hrel;clear KJ nK Ck;by_cases hlt:k<i
  ·obtain ⟨b',o',e',g0⟩:=hS.cell k (by omega)
   cases e'
   obtain ⟨b',o',e',g1⟩:=hS.cell i hi;cases e'
   rw [Az.out]at g1;have hkp:k<prev.length:=by rw [sq.out];exact hlt
   have Xl:sk[k]'(by omega)=prev[k]:=by
    have h5:=HPV.out;subst h5;rw [List.getElem_take]
   rw [Xl]at g0;have O5:=ae (Fp prev (fun p=>xN p nm) k hkp);generalize prev[k]=p at*;generalize (prev.take k).all (fun p=>xN p nm)=q at*;have vC:=ae (fun U (hU:FE U K (nd e1 q 10))=>aU U K (nd e1 q 10) (xN p nm) kind i 0 10 hU);have HF:=ae hF;have pT:=ae hX;have O6:=ae hS
   have I5:(0:Int)≤(k:Int):=by omega
   have Lv:(k:Int)<(sk.length:Int):=by omega
   clear hF hX hS Xl;have g0:wr.drew.cell? ⟨b,o+k,none⟩=some (.string p):=g0;have g1:wr.drew.cell? ⟨b,o+i,none⟩=some (.string nm):=g1;unfold xN at vC;go_wp2_with fail
   refine ay (fun w'=>w'.cell? ⟨b,o+k,none⟩=some (.string p)∧w'.cell? ⟨b,o+i,none⟩=some (.string nm)) (fun w'=>True) (fun i=>false) (by kernel_rfl) (⟨g0,g1⟩) (trivial) (fun ar ah=> ?_);refine av 0 (.pointer (some ⟨K,0,none⟩)) rfl ar ah ?_;simp only [sS];refine av 1 (.slice (some ⟨b,o,none⟩) sk.length cap) rfl ar ah ?_;simp only [sS];refine av 2 (.int .i64 (k:Int)) rfl ar ah ?_;simp only [sS];refine av 3 (.pointer (some ⟨b,o+k,none⟩)) rfl ar ah ?_;simp only [sS];refine av 4 (.string p) rfl ar ah ?_;simp only [sS];refine av 5 (.slice (some ⟨b,o,none⟩) sk.length cap) rfl ar ah ?_;simp only [sS];refine av 6 (.int .i64 (i:Int)) rfl ar ah ?_;simp only [sS];refine av 7 (.pointer (some ⟨b,o+i,none⟩)) rfl ar ah ?_;simp only [sS];refine av 8 (.string nm) rfl ar ah ?_;simp only [sS];refine av 9 (.bool (!(p.toList==nm.toList))) rfl ar ah ?_;simp only [sS];refine av 10 (i64 kind) rfl ar ah ?_;simp only [sS];refine av 11 (.int .i64 (i:Int)) rfl ar ah ?_;simp only [sS];refine cG 12 rfl (fun Kc hK=> ?_);go_simp;refine (vC.out wr.drew (HF.out.ext (Ext.refl _).drew)).mono ?_;rintro e5 W5 ⟨rfl,Fu,dA⟩;refine hK.out _ _ (⟨aR (ai (Ext.refl wr).drew g0) dA EG,aR (ai (Ext.refl wr).drew g1) dA EG⟩) (trivial) (fun ar ah=> ?_);clear hK Kc;try simp only [sS]
   refine ax (by kernel_rfl) ?_ _;clear ar ah
   have TM:Hid (FE W5 K (nd e1 (q&&xN p nm) 10)):=by
    show FE _ _ _;rw [←lM _ _ _ _ (by decide)];exact Fu
   have su:Hid (ak K V W5):=pT.out.trans (((Ext.refl wr).drew.but K).trans dA);have Fv:Hid (jD W5 (some ⟨b,o,none⟩) cap sk):=jD.but (bP.ext O6.out (Ext.refl wr).drew) dA (fun p e=>by cases e;exact EG);clear Fu dA g0 g1;go_wp2_with fail
   exact ⟨⟨k+1,by omega,by rw [O5.out];exact TM.out,su.out,Fv.out,by go_num⟩,by simp only [intOf];omega⟩
  ·obtain rfl:k=i:=by omega
   rw [List.take_of_length_le (by rw [sq.out];exact Nat.le_refl _)]at hF;go_wp2_with fail
   exact bodyPost_end (v:= .tuple #[]) (by simp [results,Tryz.results53,go_sem]) rfl ⟨rfl,hF,hX⟩
def jE (kind:Int):Int:=if kind=2 then 64 else if kind=3 then 16 else if kind=4 then 8 else if kind=5 then 8 else 64
set_option maxRecDepth 100000 in
theorem Fw (V:World) (kind:Int) (h:2≤kind∧kind≤6):
 Calls Tryz.prog 96 #[i64 kind] V fun e w'=>e= .returned (i64 (jE kind))∧Ext V w':=by
 rcases (show kind=2∨kind=3∨kind=4∨kind=5∨kind=6 by omega)with e|e|e|e|e<;>subst e
 all_goals
  go_enter Tryz.func96,Tryz.ntmps96
  go_wp2_with fail
  go_ret;exact ⟨rfl,(Ext.refl _).alloc _⟩
def oW (c:aq) (x:aS) (prev:List ByteArray) (e:Int):Int:=j2 (nd (nd (nd (nd (nd (nd (kD (kD (eG e x.name prev) c x.cd) c x.ie) (x.cd !=x.ie) 1) (bq x.rn x.rd&&decide (0<x.rn)) 3) (bq x.iH x.kq&&decide (x.iH≤0)) 3) (bq x.iO x.lg&&decide (0≤x.iO)) 3) (aY 0 1048576 [x.cf]) 3) (aY x.cf 1048576 [x.gw]) 3) c x.away
set_option maxHeartbeats 4000000 in
set_option maxRecDepth 100000 in
theorem Fx (w0 V:World) (K:Nat) (c:aq) (e:Int) (i:Nat) (hi:i<c.lines.length) (hK:w0.heap.size≤K) (hV:Ext w0 V) (hc:aT w0 c) (hn:c.lines.length≤1000000) (h:FE V K e):
 Calls Tryz.prog 57 #[.pointer (some ⟨K,0,none⟩),.agg (C8 c),i64 i] V fun e' w'=>rG V K (oW c c.lines[i] ((c.lines.take i).map aS.name) e) e' w':=by
 try unfold C8
 have vB:=h.lt;have hr:=hc.lines;have hle:=hr.le;have di:=hr.cap
 rw [List.length_map]at hle;obtain ⟨b,o,ha,c0,c1,c2,c3,c4,c5,c6,c7,c8,c9,c10,c11⟩:=(hr.ext hV).lines i hi;have aP:=hc.line c.lines[i] (List.getElem_mem hi);have wB:=ae (nU c);obtain ⟨prev,iG⟩: ∃prev,prev=(c.lines.take i).map aS.name:=⟨_,rfl⟩;obtain ⟨x,eU⟩: ∃x,x=c.lines[i]:=⟨_,rfl⟩;have qa:Hid (∃h:i<(c.lines.map aS.name).length,(c.lines.map aS.name)[i]=x.name∧(c.lines.map aS.name).take i=prev):=⟨by simpa using hi,by subst eU;simp,by subst iG;rw [List.map_take]⟩;have sZ:Hid ((c.lines.map aS.name).length≤1000000):=by(show _≤_;rw [List.length_map];exact hn)
 rw [←iG,←eU];rw [←eU]at c0 c1 c2 c3 c4 c5 c6 c7 c8 c9 c10 c11 aP;clear iG eU hn;have Fy:=ae (aP.2.2 x.cd (by simp));have Lz:=ae (aP.2.2 x.ie (by simp));have KL:=ae (aP.2.2 x.rn (by simp));have KM:=ae (aP.2.2 x.rd (by simp));have Fz:=ae (aP.2.2 x.iH (by simp));have FA:=ae (aP.2.2 x.kq (by simp));have FB:=ae (aP.2.2 x.iO (by simp));have FC:=ae (aP.2.2 x.lg (by simp));have FD:=ae (aP.2.2 x.cf (by simp));have I9:=ae (aP.2.2 x.gw (by simp));have wC:=ae (aP.2.1);have EH:=ae aP.1;have HV:=ae hV;have dB:=ae hc;have HH:=ae h;have bB:=ae hK
 have fM:(0:Int)≤(i:Int):=by omega
 have fH:(i:Int)<(c.lines.length:Int):=by omega
 unfold oW;have j3:=ae ha;clear hr h hc hV hK aP ha;go_enter Tryz.func57,Tryz.ntmps57
 go_upto_region 1 with fail
 obtain ⟨W0,hW,x0,Z0,A0⟩:=aB V 32 c.cells;rw [show V.alloc (.cells (C8 c) 32)=W0 from hW.symm];clear hW;obtain ⟨B,hB⟩: ∃B,B=V.heap.size:=⟨_,rfl⟩;rw [←hB]at A0⊢;have bL:B≠K:=by omega
 obtain ⟨-,-,k2,k3,k4,k5,k6,k7⟩:=aq.at A0;rw [j3.out]at k3;have c0:=ai x0 c0;have c1:=ai x0 c1;have c2:=ai x0 c2;have c3:=ai x0 c3;have c4:=ai x0 c4;have c5:=ai x0 c5;have c6:=ai x0 c6;have c7:=ai x0 c7;have c8:=ai x0 c8;have c9:=ai x0 c9;have c10:=ai x0 c10;have c11:=ai x0 c11;have ju:=ae A0;have X0:=ae x0;have kr:=ae hB
 clear A0 Z0 x0 hB k2 k4 k5 k6 k7;go_upto_region 2 with fail
 obtain ⟨W1,hW1,x1,Z1,A1⟩:=aB W0 78 x.cells;rw [show W0.alloc (.cells #[.string x.name,i64 x.cd,i64 x.ie,i64 x.rn,i64 x.rd,i64 x.iH,i64 x.kq,i64 x.iO,i64 x.lg,i64 x.cf,i64 x.gw,.slice x.aa x.away.length x.ac] 78)=W1 from hW1.symm];clear hW1 k3 c0 c1 c2 c3 c4 c5 c6 c7 c8 c9 c10 c11;obtain ⟨X,hX⟩: ∃X,X=W0.heap.size:=⟨_,rfl⟩;rw [←hX]at A1⊢;have f_:X≠K:=by have:=X0.out.size;omega
 have HF:=ae ((HH.out.ext X0.out).ext x1);have HX:=ae A1;have HB:=ae (ju.out.ext x1);have bV:Hid (ak K V W1):=(X0.out.trans x1).but K;have bw:Hid (Ext w0 W1):=(HV.out.trans X0.out).trans x1;clear hX A1 Z1 x1 HH ju X0 kr j3 fM fH;obtain ⟨e1,he⟩: ∃e',e'=eG e x.name prev:=⟨_,rfl⟩;have kt:=ae he;clear he;go_upto_region 2 with fail
 go_cut [] (fun wx=>FE wx K e1∧ak K W1 wx∧aG wx B 32 c.cells∧aG wx X 78 x.cells)
 case first=>
  as_aux_lemma=>
   obtain ⟨k0,k1,k2,k3,k4,k5,k6,k7⟩:=aq.at HB.out;go_wp2_with fail
   refine (kG w0 W1 K c _ 2 i prev _ x.name wB.out (by decide) qa.out sZ.out bB.out bw.out dB.out EH.out HF.out).mono ?_;rintro e w2 ⟨rfl,hf,hx⟩;have bO:ak K W1 w2:=hx;have hf':FE w2 K e1:=by(rw [kt.out];exact hf)
   have hA':=HX.out.but hx f_;have aM:=HB.out.but hx bL
   have HR:=ae (And.intro hf' (And.intro bO (And.intro aM hA')));clear hf hx hf' bO hA' aM k0 k1 k2 k3 k4 k5 k6 k7;go_wp2_with fail
   go_meet
   exact HR.out
 case rest=>
  obtain ⟨hF,hx,aM,hA'⟩:=hcut;generalize wc=V1 at*;have HF:=ae hF;have HB:=ae aM;have HX:=ae hA'
  have bV:=ae (bV.out.trans hx);have bw:=ae (hx.ext bw.out bB.out)
  clear hF hx aM hA';obtain ⟨e2,he⟩: ∃e',e'=kD e1 c x.cd:=⟨_,rfl⟩;have j4:=ae he;clear he;go_upto_region 3 with fail
  go_cut [] (fun wx=>FE wx K e2∧ak K V1 wx∧aG wx B 32 c.cells∧aG wx X 78 x.cells)
  case first=>
   as_aux_lemma=>
    obtain ⟨k0,k1,k2,k3,k4,k5,k6,k7⟩:=aq.at HB.out;have c1:=HX.out.cl 1 (i64 x.cd) rfl;go_wp2_with fail
    refine (oT w0 V1 K c _ x.cd _ _ _ bw.out dB.out Fy.out HF.out).mono ?_;rintro e w2 ⟨rfl,hf,hx⟩;have bO:ak K V1 w2:=hx;have hf':FE w2 K e2:=by(rw [j4.out];exact hf)
    have hA':=HX.out.but hx f_;have aM:=HB.out.but hx bL
    have HR:=ae (And.intro hf' (And.intro bO (And.intro aM hA')));clear hf hx hf' bO hA' aM k0 k1 k2 k3 k4 k5 k6 k7 c1;go_wp2_with fail
    go_meet
    exact HR.out
  case rest=>
   obtain ⟨hF,hx,aM,hA'⟩:=hcut;generalize wc=V2 at*;have HF:=ae hF;have HB:=ae aM;have HX:=ae hA'
   have bV:=ae (bV.out.trans hx);have bw:=ae (hx.ext bw.out bB.out)
   clear hF hx aM hA';obtain ⟨e3,he⟩: ∃e',e'=kD e2 c x.ie:=⟨_,rfl⟩;have nc:=ae he;clear he;go_upto_region 4 with fail
   go_cut [] (fun wx=>FE wx K e3∧ak K V2 wx∧aG wx B 32 c.cells∧aG wx X 78 x.cells)
   case first=>
    as_aux_lemma=>
     obtain ⟨k0,k1,k2,k3,k4,k5,k6,k7⟩:=aq.at HB.out;have c2:=HX.out.cl 2 (i64 x.ie) rfl;go_wp2_with fail
     refine (oT w0 V2 K c _ x.ie _ _ _ bw.out dB.out Lz.out HF.out).mono ?_;rintro e w2 ⟨rfl,hf,hx⟩;have bO:ak K V2 w2:=hx;have hf':FE w2 K e3:=by(rw [nc.out];exact hf)
     have hA':=HX.out.but hx f_;have aM:=HB.out.but hx bL
     have HR:=ae (And.intro hf' (And.intro bO (And.intro aM hA')));clear hf hx hf' bO hA' aM k0 k1 k2 k3 k4 k5 k6 k7 c2;go_wp2_with fail
     go_meet
     exact HR.out
   case rest=>
    obtain ⟨hF,hx,aM,hA'⟩:=hcut;generalize wc=V3 at*;have HF:=ae hF;have HB:=ae aM;have HX:=ae hA'
    have bV:=ae (bV.out.trans hx);have bw:=ae (hx.ext bw.out bB.out)
    clear hF hx aM hA';obtain ⟨e4,he⟩: ∃e',e'=nd e3 (x.cd !=x.ie) 1:=⟨_,rfl⟩;have ng:=ae he;clear he;go_upto_region 5 with fail
    go_cut [] (fun wx=>FE wx K e4∧ak K V3 wx∧aG wx B 32 c.cells∧aG wx X 78 x.cells)
    case first=>
     as_aux_lemma=>
      have c1:=HX.out.cl 1 (i64 x.cd) rfl;have c2:=HX.out.cl 2 (i64 x.ie) rfl;go_wp2_with fail
      refine (aU _ K _ _ _ _ _ _ HF.out).mono ?_;rintro e w2 ⟨rfl,hf,hx⟩;have bO:ak K V3 w2:=hx;have hf':FE w2 K e4:=by(rw [ng.out];exact hf)
      have hA':=HX.out.but hx f_;have aM:=HB.out.but hx bL
      have HR:=ae (And.intro hf' (And.intro bO (And.intro aM hA')));clear hf hx hf' bO hA' aM c1 c2;go_wp2_with fail
      go_meet
      exact HR.out
    case rest=>
     obtain ⟨hF,hx,aM,hA'⟩:=hcut;generalize wc=V4 at*;have HF:=ae hF;have HB:=ae aM;have HX:=ae hA'
     have bV:=ae (bV.out.trans hx);have bw:=ae (hx.ext bw.out bB.out)
     clear hF hx aM hA'
     as_aux_lemma=>
      obtain ⟨e5,he⟩: ∃e',e'=nd e4 (bq x.rn x.rd&&decide (0<x.rn)) 3:=⟨_,rfl⟩;have qc:=ae he;clear he;go_upto_region 6 with fail
      go_cut [] (fun wx=>FE wx K e5∧ak K V4 wx∧aG wx B 32 c.cells∧aG wx X 78 x.cells)
      case first=>
       as_aux_lemma=>
        have c3:=HX.out.cl 3 (i64 x.rn) rfl;have c4:=HX.out.cl 4 (i64 x.rd) rfl;rcases Bool.eq_false_or_eq_true (bq x.rn x.rd)with hv|hv
        ·have lN:=ae (eh V4 x.rn x.rd KL.out KM.out)
         rw [hv]at lN;have sw:=ae hv;clear hv
         go_wp2_with fail
         refine lN.out.mono ?_;rintro e w1 ⟨rfl,x1⟩;have c3:=ai x1 c3;have c4:=ai x1 c4;go_wp2_with fail
         refine (aU _ K _ _ _ _ _ _ (HF.out.ext x1)).mono ?_;rintro e w2 ⟨rfl,hf,hx⟩;have bO:ak K V4 w2:=(x1.but K).trans hx;have hf':FE w2 K e5:=by(rw [qc.out];rw [sw.out,Bool.true_and];exact hf)
         have hA':=(HX.out.ext x1).but hx f_;have aM:=(HB.out.ext x1).but hx bL
         have HR:=ae (And.intro hf' (And.intro bO (And.intro aM hA')));clear hf hx hf' bO hA' aM c3 c4;go_wp2_with fail
         go_meet
         exact HR.out
        ·have lN:=ae (eh V4 x.rn x.rd KL.out KM.out)
         rw [hv]at lN;have sw:=ae hv;clear hv
         go_wp2_with fail
         refine lN.out.mono ?_;rintro e w1 ⟨rfl,x1⟩;have c3:=ai x1 c3;have c4:=ai x1 c4;go_wp2_with fail
         refine (aU _ K _ _ _ _ _ _ (HF.out.ext x1)).mono ?_;rintro e w2 ⟨rfl,hf,hx⟩;have bO:ak K V4 w2:=(x1.but K).trans hx;have hf':FE w2 K e5:=by(rw [qc.out];rw [sw.out,Bool.false_and];exact hf)
         have hA':=(HX.out.ext x1).but hx f_;have aM:=(HB.out.ext x1).but hx bL
         have HR:=ae (And.intro hf' (And.intro bO (And.intro aM hA')));clear hf hx hf' bO hA' aM c3 c4;go_wp2_with fail
         go_meet
         exact HR.out
      case rest=>
       obtain ⟨hF,hx,aM,hA'⟩:=hcut;generalize wc=V5 at*;have HF:=ae hF;have HB:=ae aM;have HX:=ae hA'
       have bV:=ae (bV.out.trans hx);have bw:=ae (hx.ext bw.out bB.out)
       clear hF hx aM hA';obtain ⟨e6,he⟩: ∃e',e'=nd e5 (bq x.iH x.kq&&decide (x.iH≤0)) 3:=⟨_,rfl⟩;have vD:=ae he;clear he;go_upto_region 7 with fail
       go_cut [] (fun wx=>FE wx K e6∧ak K V5 wx∧aG wx B 32 c.cells∧aG wx X 78 x.cells)
       case first=>
        as_aux_lemma=>
            have c5:=HX.out.cl 5 (i64 x.iH) rfl;have c6:=HX.out.cl 6 (i64 x.kq) rfl;rcases Bool.eq_false_or_eq_true (bq x.iH x.kq)with hv|hv
            ·have lN:=ae (eh V5 x.iH x.kq Fz.out FA.out)
             rw [hv]at lN;have sw:=ae hv;clear hv
             go_wp2_with fail
             refine lN.out.mono ?_;rintro e w1 ⟨rfl,x1⟩;have c5:=ai x1 c5;have c6:=ai x1 c6;go_wp2_with fail
             refine (aU _ K _ _ _ _ _ _ (HF.out.ext x1)).mono ?_;rintro e w2 ⟨rfl,hf,hx⟩;have bO:ak K V5 w2:=(x1.but K).trans hx;have hf':FE w2 K e6:=by(rw [vD.out];rw [sw.out,Bool.true_and];exact hf)
             have hA':=(HX.out.ext x1).but hx f_;have aM:=(HB.out.ext x1).but hx bL
             have HR:=ae (And.intro hf' (And.intro bO (And.intro aM hA')));clear hf hx hf' bO hA' aM c5 c6;go_wp2_with fail
             go_meet
             exact HR.out
            ·have lN:=ae (eh V5 x.iH x.kq Fz.out FA.out)
             rw [hv]at lN;have sw:=ae hv;clear hv
             go_wp2_with fail
             refine lN.out.mono ?_;rintro e w1 ⟨rfl,x1⟩;have c5:=ai x1 c5;have c6:=ai x1 c6;go_wp2_with fail
             refine (aU _ K _ _ _ _ _ _ (HF.out.ext x1)).mono ?_;rintro e w2 ⟨rfl,hf,hx⟩;have bO:ak K V5 w2:=(x1.but K).trans hx;have hf':FE w2 K e6:=by(rw [vD.out];rw [sw.out,Bool.false_and];exact hf)
             have hA':=(HX.out.ext x1).but hx f_;have aM:=(HB.out.ext x1).but hx bL
             have HR:=ae (And.intro hf' (And.intro bO (And.intro aM hA')));clear hf hx hf' bO hA' aM c5 c6;go_wp2_with fail
             go_meet
             exact HR.out
       case rest=>
        obtain ⟨hF,hx,aM,hA'⟩:=hcut;generalize wc=V6 at*;have HF:=ae hF;have HB:=ae aM;have HX:=ae hA'
        have bV:=ae (bV.out.trans hx);have bw:=ae (hx.ext bw.out bB.out)
        clear hF hx aM hA';obtain ⟨e7,he⟩: ∃e',e'=nd e6 (bq x.iO x.lg&&decide (0≤x.iO)) 3:=⟨_,rfl⟩;have oL:=ae he;clear he;go_upto_region 8 with fail
        go_cut [] (fun wx=>FE wx K e7∧ak K V6 wx∧aG wx B 32 c.cells∧aG wx X 78 x.cells)
        case first=>
            as_aux_lemma=>
             have c7:=HX.out.cl 7 (i64 x.iO) rfl;have c8:=HX.out.cl 8 (i64 x.lg) rfl;rcases Bool.eq_false_or_eq_true (bq x.iO x.lg)with hv|hv
             ·have lN:=ae (eh V6 x.iO x.lg FB.out FC.out)
              rw [hv]at lN;have sw:=ae hv;clear hv
              go_wp2_with fail
              refine lN.out.mono ?_;rintro e w1 ⟨rfl,x1⟩;have c7:=ai x1 c7;have c8:=ai x1 c8;go_wp2_with fail
              refine (aU _ K _ _ _ _ _ _ (HF.out.ext x1)).mono ?_;rintro e w2 ⟨rfl,hf,hx⟩;have bO:ak K V6 w2:=(x1.but K).trans hx;have hf':FE w2 K e7:=by(rw [oL.out];rw [sw.out,Bool.true_and];exact hf)
              have hA':=(HX.out.ext x1).but hx f_;have aM:=(HB.out.ext x1).but hx bL
              have HR:=ae (And.intro hf' (And.intro bO (And.intro aM hA')));clear hf hx hf' bO hA' aM c7 c8;go_wp2_with fail
              go_meet
              exact HR.out
             ·have lN:=ae (eh V6 x.iO x.lg FB.out FC.out)
              rw [hv]at lN;have sw:=ae hv;clear hv
              go_wp2_with fail
              refine lN.out.mono ?_;rintro e w1 ⟨rfl,x1⟩;have c7:=ai x1 c7;have c8:=ai x1 c8;go_wp2_with fail
              refine (aU _ K _ _ _ _ _ _ (HF.out.ext x1)).mono ?_;rintro e w2 ⟨rfl,hf,hx⟩;have bO:ak K V6 w2:=(x1.but K).trans hx;have hf':FE w2 K e7:=by(rw [oL.out];rw [sw.out,Bool.false_and];exact hf)
              have hA':=(HX.out.ext x1).but hx f_;have aM:=(HB.out.ext x1).but hx bL
              have HR:=ae (And.intro hf' (And.intro bO (And.intro aM hA')));clear hf hx hf' bO hA' aM c7 c8;go_wp2_with fail
              go_meet
              exact HR.out
        case rest=>
            obtain ⟨hF,hx,aM,hA'⟩:=hcut;generalize wc=V7 at*;have HF:=ae hF;have HB:=ae aM;have HX:=ae hA'
            have bV:=ae (bV.out.trans hx);have bw:=ae (hx.ext bw.out bB.out)
            clear hF hx aM hA';obtain ⟨e8,he⟩: ∃e',e'=nd e7 (aY 0 1048576 [x.cf]) 3:=⟨_,rfl⟩;have vE:=ae he;clear he;go_upto_region 9 with fail
            go_cut [] (fun wx=>FE wx K e8∧ak K V7 wx∧aG wx B 32 c.cells∧aG wx X 78 x.cells)
            case first=>
             as_aux_lemma=>
              have c9:=HX.out.cl 9 (i64 x.cf) rfl;go_wp2_with fail
              refine (gh V7 x.cf _ _ FD.out).mono ?_;rintro e w1 ⟨rfl,rfl⟩;go_wp2_with fail
              refine (aU _ K _ _ _ _ _ _ (HF.out.alloc _)).mono ?_;rintro e w2 ⟨rfl,hf,hx⟩;have bO:ak K V7 w2:=((ak.refl K V7).alloc' _).trans hx;have hf':FE w2 K e8:=by(rw [vE.out];exact hf)
              have hA':=(HX.out.alloc' _).but hx f_;have aM:=(HB.out.alloc' _).but hx bL
              have HR:=ae (And.intro hf' (And.intro bO (And.intro aM hA')));clear hf hx hf' bO hA' aM c9;go_wp2_with fail
              go_meet
              exact HR.out
            case rest=>
             obtain ⟨hF,hx,aM,hA'⟩:=hcut;generalize wc=V8 at*;have HF:=ae hF;have HB:=ae aM;have HX:=ae hA'
             have bV:=ae (bV.out.trans hx);have bw:=ae (hx.ext bw.out bB.out)
             clear hF hx aM hA'
             as_aux_lemma=>
              obtain ⟨e9,he⟩: ∃e',e'=nd e8 (aY x.cf 1048576 [x.gw]) 3:=⟨_,rfl⟩;have NV:=ae he;clear he;go_upto_region 10 with fail
              go_cut [] (fun wx=>FE wx K e9∧ak K V8 wx∧aG wx B 32 c.cells∧aG wx X 78 x.cells)
              case first=>
               as_aux_lemma=>
                have c9:=HX.out.cl 9 (i64 x.cf) rfl;have c10:=HX.out.cl 10 (i64 x.gw) rfl;go_wp2_with fail
                refine (gh V8 x.gw _ _ I9.out).mono ?_;rintro e w1 ⟨rfl,rfl⟩;go_wp2_with fail
                refine (aU _ K _ _ _ _ _ _ (HF.out.alloc _)).mono ?_;rintro e w2 ⟨rfl,hf,hx⟩;have bO:ak K V8 w2:=((ak.refl K V8).alloc' _).trans hx;have hf':FE w2 K e9:=by(rw [NV.out];exact hf)
                have hA':=(HX.out.alloc' _).but hx f_;have aM:=(HB.out.alloc' _).but hx bL
                have HR:=ae (And.intro hf' (And.intro bO (And.intro aM hA')));clear hf hx hf' bO hA' aM c9 c10;go_wp2_with fail
                go_meet
                exact HR.out
              case rest=>
               obtain ⟨hF,hx,aM,hA'⟩:=hcut;generalize wc=V9 at*;have HF:=ae hF;have HB:=ae aM;have HX:=ae hA'
               have bV:=ae (bV.out.trans hx);have bw:=ae (hx.ext bw.out bB.out)
               clear hF hx aM hA';obtain ⟨Cl,he⟩: ∃e',e'=j2 e9 c x.away:=⟨_,rfl⟩;have Dj:=ae he;clear he;obtain ⟨k0,k1,k2,k3,k4,k5,k6,k7⟩:=aq.at HB.out;have c11:=HX.out.cl 11 (.slice x.aa x.away.length x.ac) rfl;go_wp2_with fail
               refine (yo w0 V9 K c _ x.aa x.ac x.away _ _ _ bB.out bw.out wC.out HF.out).mono ?_;rintro e w2 ⟨rfl,hf,hx⟩;have bO:ak K V9 w2:=hx;have hf':FE w2 K Cl:=by(rw [Dj.out];exact hf)
               have hA':=HX.out.but hx f_;have aM:=HB.out.but hx bL
               have HR:=ae (And.intro hf' (And.intro bO (And.intro aM hA')));clear hf hx hf' bO hA' aM k0 k1 k2 k3 k4 k5 k6 k7 c11;go_wp2_with fail
               exact bodyPost_end (v:= .tuple #[]) (by simp [results,Tryz.results57,go_sem]) rfl ⟨rfl,by rw [←kt.out,←j4.out,←nc.out,←ng.out,←qc.out,←vD.out,←oL.out,←vE.out,←NV.out,←Dj.out];exact HR.out.1,bV.out.trans HR.out.2.1⟩
end Go.Proofs.YtkpngkdgphojlaaGreat
