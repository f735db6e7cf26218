/- Texts of the proof. -/
import Derived.Laws.Rows
import Derived.Deep.WholeRow
import Derived.Test.YtkpngkdgphojlaaGreatCc5
set_option linter.all false
namespace Go.Proofs.YtkpngkdgphojlaaGreat
open Go.RowKit
def St.whole (s:St) (c:aq):St:=(((((((((s.at 0 0).within 0 c.hours 1 24).dN c 1 c.az 0 1048576).need (decide ((1:Int)≤c.au.length)&&decide ((c.au.length:Int)≤32)) 2 8).need (decide ((c.lines.length:Int)≤64)) 3 8).need (decide ((c.aj.length:Int)≤16)) 4 8).need (decide ((c.stores.length:Int)≤8)) 5 8).need (decide ((c.aN.length:Int)≤8)) 6 8).need (decide ((c.outs.length:Int)≤64)) 7 8)
set_option maxHeartbeats 1000000 in
set_option maxRecDepth 100000 in
theorem Jd (w0 V:World) (K:Nat) (c:aq) (s:St) (hK:w0.heap.size≤K) (hV:Ext w0 V) (hc:aT w0 c) (h:cY V K c s):
 Calls Tryz.prog 78 #[.pointer (some ⟨K,0,none⟩)] V fun e' w'=>km V K c (s.whole c) e' w':=by
 have b2:=hc.au.le;have b2':=hc.au.cap;have b3:=hc.lines.le;have b3':=hc.lines.cap;have b4:=hc.aj.le;have b4':=hc.aj.cap;have b5:=hc.stores.le;have b5':=hc.stores.cap;have b6:=hc.aN.le;have b6':=hc.aN.cap;have b7:=hc.outs.le;have b7':=hc.outs.cap
 rw [List.length_map]at b2 b3 b4 b5 b6 b7;have HR:=ae hc.az;have HV:=ae hV;have bB:=ae hK
 unfold St.whole;clear hc hV;have SK:=ak.refl K V;have sx:=h;clear h hK;cases d1:decide ((1:Int)≤(c.au.length:Int))with
 |false=>
  go_enter Tryz.func78,Tryz.ntmps78
  obtain ⟨k0,k1,k2,k3,k4,k5,k6,k7⟩:=cF sx;go_wp2_with fail
  refine (wz V K c s 0 0 sx).mono ?_;rintro e W1 ⟨rfl,ni,hx0⟩;clear k0 k1 k2 k3 k4 k5 k6 k7;have nM:=SK.trans hx0;clear sx SK hx0;obtain ⟨k0,k1,k2,k3,k4,k5,k6,k7⟩:=cF ni;go_wp2_with fail
  refine (bM W1 K c (s.at 0 0) 0 c.hours 1 24 ni).mono ?_;rintro e W2 ⟨rfl,hK2,hx1⟩;clear k0 k1 k2 k3 k4 k5 k6 k7;have pV:=nM.trans hx1;clear ni nM hx1;obtain ⟨k0,k1,k2,k3,k4,k5,k6,k7⟩:=cF hK2;go_wp2_with fail
  refine (kC w0 W2 K c ((s.at 0 0).within 0 c.hours 1 24) 1 0 1048576 c.ra c.rc c.az bB.out (pV.ext HV.out bB.out) HR.out hK2).mono ?_;rintro e W3 ⟨rfl,hK3,hx2⟩;clear k0 k1 k2 k3 k4 k5 k6 k7;have qQ:=pV.trans hx2;clear hK2 pV hx2;obtain ⟨k0,k1,k2,k3,k4,k5,k6,k7⟩:=cF hK3;go_wp2_with fail
  refine (bN W3 K c (((s.at 0 0).within 0 c.hours 1 24).dN c 1 c.az 0 1048576) _ 2 8 hK3).mono ?_;rintro e W4 ⟨rfl,hK4,hx3⟩;clear k0 k1 k2 k3 k4 k5 k6 k7;have hK4:cY W4 K c ((((s.at 0 0).within 0 c.hours 1 24).dN c 1 c.az 0 1048576).need (false&&decide ((c.au.length:Int)≤32)) 2 8):=by simpa using hK4
  have vF:=qQ.trans hx3;clear hK3 qQ hx3;obtain ⟨k0,k1,k2,k3,k4,k5,k6,k7⟩:=cF hK4;go_wp2_with fail
  refine (bN W4 K c ((((s.at 0 0).within 0 c.hours 1 24).dN c 1 c.az 0 1048576).need (false&&decide ((c.au.length:Int)≤32)) 2 8) (decide ((c.lines.length:Int)≤64)) 3 8 hK4).mono ?_;rintro e W5 ⟨rfl,jX,fN⟩;clear k0 k1 k2 k3 k4 k5 k6 k7;have rK:=vF.trans fN;clear hK4 vF fN;obtain ⟨k0,k1,k2,k3,k4,k5,k6,k7⟩:=cF jX;go_wp2_with fail
  refine (bN W5 K c (((((s.at 0 0).within 0 c.hours 1 24).dN c 1 c.az 0 1048576).need (false&&decide ((c.au.length:Int)≤32)) 2 8).need (decide ((c.lines.length:Int)≤64)) 3 8) (decide ((c.aj.length:Int)≤16)) 4 8 jX).mono ?_;rintro e W6 ⟨rfl,jF,dA⟩;clear k0 k1 k2 k3 k4 k5 k6 k7;have Cm:=rK.trans dA;clear jX rK dA;obtain ⟨k0,k1,k2,k3,k4,k5,k6,k7⟩:=cF jF;go_wp2_with fail
  refine (bN W6 K c ((((((s.at 0 0).within 0 c.hours 1 24).dN c 1 c.az 0 1048576).need (false&&decide ((c.au.length:Int)≤32)) 2 8).need (decide ((c.lines.length:Int)≤64)) 3 8).need (decide ((c.aj.length:Int)≤16)) 4 8) (decide ((c.stores.length:Int)≤8)) 5 8 jF).mono ?_;rintro e W7 ⟨rfl,qd,eT⟩;clear k0 k1 k2 k3 k4 k5 k6 k7;have Dn:=Cm.trans eT;clear jF Cm eT;obtain ⟨k0,k1,k2,k3,k4,k5,k6,k7⟩:=cF qd;go_wp2_with fail
  refine (bN W7 K c (((((((s.at 0 0).within 0 c.hours 1 24).dN c 1 c.az 0 1048576).need (false&&decide ((c.au.length:Int)≤32)) 2 8).need (decide ((c.lines.length:Int)≤64)) 3 8).need (decide ((c.aj.length:Int)≤16)) 4 8).need (decide ((c.stores.length:Int)≤8)) 5 8) (decide ((c.aN.length:Int)≤8)) 6 8 qd).mono ?_;rintro e W8 ⟨rfl,pW,j6⟩;clear k0 k1 k2 k3 k4 k5 k6 k7;have FM:=Dn.trans j6;clear qd Dn j6;obtain ⟨k0,k1,k2,k3,k4,k5,k6,k7⟩:=cF pW;go_wp2_with fail
  refine (bN W8 K c ((((((((s.at 0 0).within 0 c.hours 1 24).dN c 1 c.az 0 1048576).need (false&&decide ((c.au.length:Int)≤32)) 2 8).need (decide ((c.lines.length:Int)≤64)) 3 8).need (decide ((c.aj.length:Int)≤16)) 4 8).need (decide ((c.stores.length:Int)≤8)) 5 8).need (decide ((c.aN.length:Int)≤8)) 6 8) (decide ((c.outs.length:Int)≤64)) 7 8 pW).mono ?_;rintro e W9 ⟨rfl,vG,fF⟩;clear k0 k1 k2 k3 k4 k5 k6 k7;have Ae:=FM.trans fF;clear pW FM fF;go_wp2_with fail
  exact bodyPost_end (v:= .tuple #[]) (by simp [results,Tryz.results78,go_sem]) rfl ⟨rfl,vG,Ae⟩
 |true=>
  go_enter Tryz.func78,Tryz.ntmps78
  obtain ⟨k0,k1,k2,k3,k4,k5,k6,k7⟩:=cF sx;go_wp2_with fail
  refine (wz V K c s 0 0 sx).mono ?_;rintro e W1 ⟨rfl,ni,hx0⟩;clear k0 k1 k2 k3 k4 k5 k6 k7;have nM:=SK.trans hx0;clear sx SK hx0;obtain ⟨k0,k1,k2,k3,k4,k5,k6,k7⟩:=cF ni;go_wp2_with fail
  refine (bM W1 K c (s.at 0 0) 0 c.hours 1 24 ni).mono ?_;rintro e W2 ⟨rfl,hK2,hx1⟩;clear k0 k1 k2 k3 k4 k5 k6 k7;have pV:=nM.trans hx1;clear ni nM hx1;obtain ⟨k0,k1,k2,k3,k4,k5,k6,k7⟩:=cF hK2;go_wp2_with fail
  refine (kC w0 W2 K c ((s.at 0 0).within 0 c.hours 1 24) 1 0 1048576 c.ra c.rc c.az bB.out (pV.ext HV.out bB.out) HR.out hK2).mono ?_;rintro e W3 ⟨rfl,hK3,hx2⟩;clear k0 k1 k2 k3 k4 k5 k6 k7;have qQ:=pV.trans hx2;clear hK2 pV hx2;obtain ⟨k0,k1,k2,k3,k4,k5,k6,k7⟩:=cF hK3;go_wp2_with fail
  refine (bN W3 K c (((s.at 0 0).within 0 c.hours 1 24).dN c 1 c.az 0 1048576) _ 2 8 hK3).mono ?_;rintro e W4 ⟨rfl,hK4,hx3⟩;clear k0 k1 k2 k3 k4 k5 k6 k7;have hK4:cY W4 K c ((((s.at 0 0).within 0 c.hours 1 24).dN c 1 c.az 0 1048576).need (true&&decide ((c.au.length:Int)≤32)) 2 8):=by simpa using hK4
  have vF:=qQ.trans hx3;clear hK3 qQ hx3;obtain ⟨k0,k1,k2,k3,k4,k5,k6,k7⟩:=cF hK4;go_wp2_with fail
  refine (bN W4 K c ((((s.at 0 0).within 0 c.hours 1 24).dN c 1 c.az 0 1048576).need (true&&decide ((c.au.length:Int)≤32)) 2 8) (decide ((c.lines.length:Int)≤64)) 3 8 hK4).mono ?_;rintro e W5 ⟨rfl,jX,fN⟩;clear k0 k1 k2 k3 k4 k5 k6 k7;have rK:=vF.trans fN;clear hK4 vF fN;obtain ⟨k0,k1,k2,k3,k4,k5,k6,k7⟩:=cF jX;go_wp2_with fail
  refine (bN W5 K c (((((s.at 0 0).within 0 c.hours 1 24).dN c 1 c.az 0 1048576).need (true&&decide ((c.au.length:Int)≤32)) 2 8).need (decide ((c.lines.length:Int)≤64)) 3 8) (decide ((c.aj.length:Int)≤16)) 4 8 jX).mono ?_;rintro e W6 ⟨rfl,jF,dA⟩;clear k0 k1 k2 k3 k4 k5 k6 k7;have Cm:=rK.trans dA;clear jX rK dA;obtain ⟨k0,k1,k2,k3,k4,k5,k6,k7⟩:=cF jF;go_wp2_with fail
  refine (bN W6 K c ((((((s.at 0 0).within 0 c.hours 1 24).dN c 1 c.az 0 1048576).need (true&&decide ((c.au.length:Int)≤32)) 2 8).need (decide ((c.lines.length:Int)≤64)) 3 8).need (decide ((c.aj.length:Int)≤16)) 4 8) (decide ((c.stores.length:Int)≤8)) 5 8 jF).mono ?_;rintro e W7 ⟨rfl,qd,eT⟩;clear k0 k1 k2 k3 k4 k5 k6 k7;have Dn:=Cm.trans eT;clear jF Cm eT;obtain ⟨k0,k1,k2,k3,k4,k5,k6,k7⟩:=cF qd;go_wp2_with fail
  refine (bN W7 K c (((((((s.at 0 0).within 0 c.hours 1 24).dN c 1 c.az 0 1048576).need (true&&decide ((c.au.length:Int)≤32)) 2 8).need (decide ((c.lines.length:Int)≤64)) 3 8).need (decide ((c.aj.length:Int)≤16)) 4 8).need (decide ((c.stores.length:Int)≤8)) 5 8) (decide ((c.aN.length:Int)≤8)) 6 8 qd).mono ?_;rintro e W8 ⟨rfl,pW,j6⟩;clear k0 k1 k2 k3 k4 k5 k6 k7;have FM:=Dn.trans j6;clear qd Dn j6;obtain ⟨k0,k1,k2,k3,k4,k5,k6,k7⟩:=cF pW;go_wp2_with fail
  refine (bN W8 K c ((((((((s.at 0 0).within 0 c.hours 1 24).dN c 1 c.az 0 1048576).need (true&&decide ((c.au.length:Int)≤32)) 2 8).need (decide ((c.lines.length:Int)≤64)) 3 8).need (decide ((c.aj.length:Int)≤16)) 4 8).need (decide ((c.stores.length:Int)≤8)) 5 8).need (decide ((c.aN.length:Int)≤8)) 6 8) (decide ((c.outs.length:Int)≤64)) 7 8 pW).mono ?_;rintro e W9 ⟨rfl,vG,fF⟩;clear k0 k1 k2 k3 k4 k5 k6 k7;have Ae:=FM.trans fF;clear pW FM fF;go_wp2_with fail
  exact bodyPost_end (v:= .tuple #[]) (by simp [results,Tryz.results78,go_sem]) rfl ⟨rfl,vG,Ae⟩
def St.kH (c:aq) (x:bp) (prev:List ByteArray) (i:Int) (s:St):St:=((((((((s.at 4 i).name x.name prev).cX c 1 x.cX).within 2 x.capacity 0 1048576).within 3 x.initial 0 x.capacity).within 4 x.final 0 x.capacity).within 5 x.dI 0 1048576).within 6 x.discharge 0 1048576).need (bq x.en x.ed&&decide (0<x.en)&&decide (x.en≤x.ed)) 7 3
def St.jH (c:aq) (s:St) (n:Nat):St:=(List.range n).foldl (fun s i=>match c.stores[i]? with|some x=>St.kH c x ((c.stores.take i).map bp.name) i s|none=>s) s
def St.stores (s:St) (c:aq):St:=St.jH c s c.stores.length
theorem St.uC (c:aq) (s:St) (i:Nat) (h:i<c.stores.length):St.jH c s (i+1)=St.kH c c.stores[i] ((c.stores.take i).map bp.name) i (St.jH c s i):=by
 unfold St.jH;rw [List.range_succ,List.foldl_append,List.foldl_cons,List.foldl_nil,List.getElem?_eq_getElem h]
set_option maxHeartbeats 2000000 in
set_option maxRecDepth 100000 in
theorem FP (w0 V:World) (K:Nat) (c:aq) (s:St) (hK:w0.heap.size≤K) (hV:Ext w0 V) (hc:aT w0 c) (hn:c.stores.length≤1000000) (h:cY V K c s):
 Calls Tryz.prog 82 #[.pointer (some ⟨K,0,none⟩)] V fun e' w'=>km V K c (s.stores c) e' w':=by
 have vB:=h.lt;have hr:=hc.stores;have hle:=hr.le;have di:=hr.cap
 rw [List.length_map]at hle;have hen: ∀args w,(callFunc 143 args).run Tryz.prog w= .ok (.enter 143 args) w:=enters_of Tryz.func143 (by kernel_rfl) rfl;have Dm:=ae hen;have HV:=ae hV;have dB:=ae hc;have HH:=ae h;have bB:=ae hK
 unfold St.stores;clear hr h hc hV hen hK;go_enter Tryz.func82,Tryz.ntmps82
 go_upto_region 1 with fail
 obtain ⟨W,hW,x0,Z0,A0⟩:=aB V 141 [.pointer (some ⟨K,0,none⟩)];rw [show V.alloc (.cells #[.pointer (some ⟨K,0,none⟩)] 141)=W from hW.symm];clear hW;obtain ⟨B,hB⟩: ∃B,B=V.heap.size:=⟨_,rfl⟩;rw [←hB]at A0⊢;have bL:B≠K:=by omega
 have kb:W.cell? ⟨B,0,none⟩=some (.pointer (some ⟨K,0,none⟩)):=(A0.cell 0).trans rfl;have tj:=HH.out.ext x0;obtain ⟨k0,k1,k2,k3,k4,k5,k6,k7⟩:=cF tj;have ju:=ae A0;have mz:=ae tj;have X0:=ae (x0.but K)
 have kr:=ae hB;clear A0 tj Z0 x0 hB HH;go_wp2_with fail
 clear kb k0 k1 k2 k3 k4 k5 k6 k7;go_loopw [11] (fun ii wr=> ∃i:Nat,i≤c.stores.length∧cY wr K c (St.jH c s i)∧ak K V wr∧aG wr B 141 [.pointer (some ⟨K,0,none⟩)]∧ii= .int .i64 i) (fun ii _=>c.stores.length-(intOf ii).toNat)
 case atStart=>exact ⟨0,Nat.zero_le _,mz.out,X0.out,ju.out,rfl⟩
 case round=>
  obtain ⟨i,hi,hk,hx,hA,rfl⟩:=hrel;clear ju mz X0;by_cases hlt:i<c.stores.length
  ·have hE:=hx.ext HV.out bB.out
   have pU:=ae (St.uC c s i hlt);obtain ⟨b,o,ha,c0,c1,c2,c3,c4,c5,c6,c7,c8⟩:=(dB.out.stores.ext hE).stores i hlt;have aP:=dB.out.store c.stores[i] (List.getElem_mem hlt);generalize St.jH c s i=s0 at*;obtain ⟨prev,iG⟩: ∃prev,prev=(c.stores.take i).map bp.name:=⟨_,rfl⟩;rw [←iG]at pU;have gW:prev.length=i:=by subst iG;simp;omega
   have iY: ∀j (hj:j<prev.length),∃h:j<c.stores.length,prev[j]=c.stores[j].name:=fun j hj=>⟨by omega,by subst iG;simp⟩;obtain ⟨x,eU⟩: ∃x,x=c.stores[i]:=⟨_,rfl⟩;rw [←eU]at c0 c1 c2 c3 c4 c5 c6 c7 c8 aP pU;have nL:=ae aP;have xO:=ae iY;have sq:=ae gW
   have nW:=ae hk;have HX:=ae hx;have HE:=ae hE;have HA:=ae hA
   have kb:wr.cell? ⟨B,0,none⟩=some (.pointer (some ⟨K,0,none⟩)):=(hA.cell 0).trans rfl;have fM:(0:Int)≤(i:Int):=by omega
   have fH:(i:Int)<(c.stores.length:Int):=by omega
   clear aP iY gW iG eU hk hx hE hA;rw [ha];go_upto_region 4 with fail
   obtain ⟨W1,hW1,x1,Z1,A1⟩:=aB wr 82 x.cells;rw [show wr.alloc (.cells #[.string x.name,i64 x.cX,i64 x.capacity,i64 x.initial,i64 x.final,i64 x.dI,i64 x.discharge,i64 x.en,i64 x.ed] 82)=W1 from hW1.symm];clear hW1 c0 c1 c2 c3 c4 c5 c6 c7 c8;obtain ⟨E,j5⟩: ∃E,E=wr.heap.size:=⟨_,rfl⟩;rw [←j5]at A1⊢;have dR:E≠K:=by have:=nW.out.lt;omega
   have sx:=nW.out.ext x1;have bt:=ae A1;have dg:=ae (HA.out.ext x1);have nM:ak K V W1:=HX.out.trans (x1.but K);have eP:Ext w0 W1:=HE.out.trans x1;clear j5 A1 Z1 x1 nW HA kb;have kb:=dg.out.cl 0 (.pointer (some ⟨K,0,none⟩)) rfl;obtain ⟨c0,c1,c2,c3,c4,c5,c6,c7,c8⟩:=bp.at bt.out;go_wp2_with fail
   refine (wz W1 K c s0 4 i sx).mono ?_;rintro e W2 ⟨rfl,ni,hx1⟩;obtain ⟨s1,hs1⟩: ∃s',s'=(s0.at 4 i):=⟨_,rfl⟩;rw [←hs1]at ni;have oX:=ae hs1;clear hs1;clear kb c0 c1 c2 c3 c4 c5 c6 c7 c8;have bt:=ae (bt.out.but hx1 dR);have dg:=ae (dg.out.but hx1 bL)
   have pV:ak K V W2:=nM.trans hx1;have eP:Ext w0 W2:=hx1.ext eP bB.out;clear hx1 nM sx;have kb:=dg.out.cl 0 (.pointer (some ⟨K,0,none⟩)) rfl;obtain ⟨c0,c1,c2,c3,c4,c5,c6,c7,c8⟩:=bp.at bt.out
   have jW:s1.err=0→s1.idx=(prev.length:Int):=fun h0=>by
    rw [sq.out];rw [oX.out]at h0⊢;unfold St.at at h0⊢;split
    ·rfl
    ·rename_i hne;rw [if_neg hne]at h0;exact absurd h0 hne
   have HN:=ae (p9 W2 K c s1 x.name nL.out.1 prev 143 B jW (by rw [sq.out];omega) Dm.out (fun V' s' j hj lL FL=>by
    obtain ⟨hj',ej⟩:=xO.out j hj;rw [ej];exact Di w0 V' K B c s' j bB.out (lL.ext eP bB.out) dB.out FL (aR ((dg.out.cell 0).trans rfl) lL bL) hj') ni)
   clear jW;go_wp2_with fail
   refine HN.out.mono ?_;rintro e W3 ⟨rfl,hK2,hx2⟩;obtain ⟨s2,hs2⟩: ∃s',s'=(s1.name x.name prev):=⟨_,rfl⟩;rw [←hs2]at hK2;have nX:=ae hs2;clear hs2;clear kb c0 c1 c2 c3 c4 c5 c6 c7 c8;have bt:=ae (bt.out.but hx2 dR);have dg:=ae (dg.out.but hx2 bL)
   have qQ:ak K V W3:=pV.trans hx2;have eP:Ext w0 W3:=hx2.ext eP bB.out;clear hx2 pV ni;have kb:=dg.out.cl 0 (.pointer (some ⟨K,0,none⟩)) rfl;obtain ⟨c0,c1,c2,c3,c4,c5,c6,c7,c8⟩:=bp.at bt.out;go_wp2_with fail
   refine (yj W3 K c s2 1 x.cX hK2).mono ?_;rintro e W4 ⟨rfl,hK3,hx3⟩;obtain ⟨s3,hs3⟩: ∃s',s'=(s2.cX c 1 x.cX):=⟨_,rfl⟩;rw [←hs3]at hK3;have Ad:=ae hs3;clear hs3;clear kb c0 c1 c2 c3 c4 c5 c6 c7 c8;have bt:=ae (bt.out.but hx3 dR);have dg:=ae (dg.out.but hx3 bL)
   have vF:ak K V W4:=qQ.trans hx3;have eP:Ext w0 W4:=hx3.ext eP bB.out;clear hx3 qQ hK2;have kb:=dg.out.cl 0 (.pointer (some ⟨K,0,none⟩)) rfl;obtain ⟨c0,c1,c2,c3,c4,c5,c6,c7,c8⟩:=bp.at bt.out;go_wp2_with fail
   refine (bM W4 K c s3 2 x.capacity 0 1048576 hK3).mono ?_;rintro e W5 ⟨rfl,hK4,fN⟩;obtain ⟨s4,nj⟩: ∃s',s'=(s3.within 2 x.capacity 0 1048576):=⟨_,rfl⟩;rw [←nj]at hK4;have Ck:=ae nj;clear nj;clear kb c0 c1 c2 c3 c4 c5 c6 c7 c8;have bt:=ae (bt.out.but fN dR);have dg:=ae (dg.out.but fN bL)
   have rK:ak K V W5:=vF.trans fN;have eP:Ext w0 W5:=fN.ext eP bB.out;clear fN vF hK3;have kb:=dg.out.cl 0 (.pointer (some ⟨K,0,none⟩)) rfl;obtain ⟨c0,c1,c2,c3,c4,c5,c6,c7,c8⟩:=bp.at bt.out;go_wp2_with fail
   refine (bM W5 K c s4 3 x.initial 0 x.capacity hK4).mono ?_;rintro e W6 ⟨rfl,jX,dA⟩;obtain ⟨s5,hs5⟩: ∃s',s'=(s4.within 3 x.initial 0 x.capacity):=⟨_,rfl⟩;rw [←hs5]at jX;have Fv:=ae hs5;clear hs5;clear kb c0 c1 c2 c3 c4 c5 c6 c7 c8;have bt:=ae (bt.out.but dA dR);have dg:=ae (dg.out.but dA bL)
   have Cm:ak K V W6:=rK.trans dA;have eP:Ext w0 W6:=dA.ext eP bB.out;clear dA rK hK4;have kb:=dg.out.cl 0 (.pointer (some ⟨K,0,none⟩)) rfl;obtain ⟨c0,c1,c2,c3,c4,c5,c6,c7,c8⟩:=bp.at bt.out;go_wp2_with fail
   refine (bM W6 K c s5 4 x.final 0 x.capacity jX).mono ?_;rintro e W7 ⟨rfl,jF,eT⟩;obtain ⟨s6,Cn⟩: ∃s',s'=(s5.within 4 x.final 0 x.capacity):=⟨_,rfl⟩;rw [←Cn]at jF;have Ja:=ae Cn;clear Cn;clear kb c0 c1 c2 c3 c4 c5 c6 c7 c8;have bt:=ae (bt.out.but eT dR);have dg:=ae (dg.out.but eT bL)
   have Dn:ak K V W7:=Cm.trans eT;have eP:Ext w0 W7:=eT.ext eP bB.out;clear eT Cm jX;have kb:=dg.out.cl 0 (.pointer (some ⟨K,0,none⟩)) rfl;obtain ⟨c0,c1,c2,c3,c4,c5,c6,c7,c8⟩:=bp.at bt.out;go_wp2_with fail
   refine (bM W7 K c s6 5 x.dI 0 1048576 jF).mono ?_;rintro e W8 ⟨rfl,qd,j6⟩;obtain ⟨s7,LD⟩: ∃s',s'=(s6.within 5 x.dI 0 1048576):=⟨_,rfl⟩;rw [←LD]at qd;have LF:=ae LD;clear LD;clear kb c0 c1 c2 c3 c4 c5 c6 c7 c8;have bt:=ae (bt.out.but j6 dR);have dg:=ae (dg.out.but j6 bL)
   have FM:ak K V W8:=Dn.trans j6;have eP:Ext w0 W8:=j6.ext eP bB.out;clear j6 Dn jF;have kb:=dg.out.cl 0 (.pointer (some ⟨K,0,none⟩)) rfl;obtain ⟨c0,c1,c2,c3,c4,c5,c6,c7,c8⟩:=bp.at bt.out;go_wp2_with fail
   refine (bM W8 K c s7 6 x.discharge 0 1048576 qd).mono ?_;rintro e W9 ⟨rfl,pW,fF⟩;obtain ⟨s8,LG⟩: ∃s',s'=(s7.within 6 x.discharge 0 1048576):=⟨_,rfl⟩;rw [←LG]at pW;have LH:=ae LG;clear LG;clear kb c0 c1 c2 c3 c4 c5 c6 c7 c8;have bt:=ae (bt.out.but fF dR);have dg:=ae (dg.out.but fF bL)
   have Ae:ak K V W9:=FM.trans fF;have eP:Ext w0 W9:=fF.ext eP bB.out;clear fF FM qd;have kb:=dg.out.cl 0 (.pointer (some ⟨K,0,none⟩)) rfl;obtain ⟨c0,c1,c2,c3,c4,c5,c6,c7,c8⟩:=bp.at bt.out;go_upto_region 13 with fail
   obtain ⟨Wf,Xm,xf,Zf,Af⟩:=aB W9 76 [i64 x.en,i64 x.ed];rw [show W9.alloc (.cells #[i64 x.en,i64 x.ed] 76)=Wf from Xm.symm];obtain ⟨G,hG⟩: ∃G,G=W9.heap.size:=⟨_,rfl⟩;rw [←hG]at Af⊢;have FQ:G≠K:=by have:=pW.lt;omega
   have EJ:=ai xf.drew kb;have g0:Wf.drew.cell? ⟨G,0,none⟩=some (i64 x.en):=(Af.cell 0).trans rfl;have g1:Wf.drew.cell? ⟨G,1,none⟩=some (i64 x.ed):=(Af.cell 1).trans rfl;clear Xm hG Zf Af
   have hq:(bq x.en x.ed=true∧decide (0<x.en)=true)∨(bq x.en x.ed=true∧decide (0<x.en)=false)∨bq x.en x.ed=false:=by
    cases bq x.en x.ed<;>cases decide (0<x.en)<;>simp
   rcases hq with⟨hv,hp⟩|⟨hv,hp⟩|hv
   focus
    refine ay (fun w'=>w'.cell? ⟨B,0,none⟩=some (.pointer (some ⟨K,0,none⟩))∧w'.cell? ⟨G,0,none⟩=some (i64 x.en)∧w'.cell? ⟨G,1,none⟩=some (i64 x.ed)) (fun w'=>True) (fun i=>false) (by kernel_rfl) (⟨EJ,g0,g1⟩) (trivial) (fun ar ah=> ?_);refine av 0 (.pointer (some ⟨K,0,none⟩)) rfl ar ah ?_;simp only [sS];refine av 1 (.agg #[i64 x.en,i64 x.ed]) rfl ar ah ?_;simp only [sS];refine cG 2 rfl (fun Kc hK=> ?_);go_simp;refine (ir Wf.drew x.en x.ed).mono ?_;rintro e z1 ⟨rfl,xz⟩;rw [hv];refine hK.out _ _ (⟨ai xz EJ,ai xz g0,ai xz g1⟩) (trivial) (fun ar ah=> ?_);clear hK Kc;try simp only [sS]
    refine av 3 (.bool true) rfl ar ah ?_;simp only [sS];refine av 4 (.pointer (some ⟨G,0,none⟩)) rfl ar ah ?_;simp only [sS];refine av 5 (i64 x.en) rfl ar ah ?_;simp only [sS];refine av 6 (.bool true) rfl ar ah ?_;simp only [sS];refine av 7 (.bool true) rfl ar ah ?_;simp only [sS];refine av 8 (.bool true) rfl ar ah ?_;simp only [sS];refine av 9 (.pointer (some ⟨G,0,none⟩)) rfl ar ah ?_;simp only [sS];refine av 10 (i64 x.en) rfl ar ah ?_;simp only [sS];refine av 11 (.pointer (some ⟨G,1,none⟩)) rfl ar ah ?_;simp only [sS];refine av 12 (i64 x.ed) rfl ar ah ?_;simp only [sS];refine av 13 (.bool (decide (x.en≤x.ed))) rfl ar ah ?_;simp only [sS];refine av 14 (.bool (decide (x.en≤x.ed))) rfl ar ah ?_;simp only [sS];refine cG 15 rfl (fun Kc hK=> ?_);go_simp;refine (bN z1 K c s8 (decide (x.en≤x.ed)) 7 3 (pW.ext (xf.drew.trans xz))).mono ?_;rintro e jG ⟨rfl,vG,mB⟩;have iD:ak K W9 jG:=((xf.drew.trans xz).but K).trans mB;refine hK.out _ _ (⟨aR (ai xz EJ) mB bL,aR (ai xz g0) mB FQ,aR (ai xz g1) mB FQ⟩) (trivial) (fun ar ah=> ?_);clear hK Kc;try simp only [sS]
    refine ax (by kernel_rfl) ?_ _;clear ar ah mB xz EJ g0 g1;have vG:cY jG K c (s8.need (bq x.en x.ed&&decide (0<x.en)&&decide (x.en≤x.ed)) 7 3):=by(rw [hv,hp];simpa using vG)
    clear xf FQ;obtain ⟨s9,AE⟩: ∃s',s'=(s8.need (bq x.en x.ed&&decide (0<x.en)&&decide (x.en≤x.ed)) 7 3):=⟨_,rfl⟩;rw [←AE]at vG;have Jc:=ae AE;clear AE;clear kb c0 c1 c2 c3 c4 c5 c6 c7 c8;have bt:=ae (bt.out.but iD dR);have dg:=ae (dg.out.but iD bL)
    have wH:ak K V jG:=Ae.trans iD;have eP:Ext w0 jG:=iD.ext eP bB.out;clear iD Ae pW
   rotate_left
   focus
    refine ay (fun w'=>w'.cell? ⟨B,0,none⟩=some (.pointer (some ⟨K,0,none⟩))∧w'.cell? ⟨G,0,none⟩=some (i64 x.en)∧w'.cell? ⟨G,1,none⟩=some (i64 x.ed)) (fun w'=>True) (fun i=>false) (by kernel_rfl) (⟨EJ,g0,g1⟩) (trivial) (fun ar ah=> ?_);refine av 0 (.pointer (some ⟨K,0,none⟩)) rfl ar ah ?_;simp only [sS];refine av 1 (.agg #[i64 x.en,i64 x.ed]) rfl ar ah ?_;simp only [sS];refine cG 2 rfl (fun Kc hK=> ?_);go_simp;refine (ir Wf.drew x.en x.ed).mono ?_;rintro e z1 ⟨rfl,xz⟩;rw [hv];refine hK.out _ _ (⟨ai xz EJ,ai xz g0,ai xz g1⟩) (trivial) (fun ar ah=> ?_);clear hK Kc;try simp only [sS]
    refine av 3 (.bool true) rfl ar ah ?_;simp only [sS];refine av 4 (.pointer (some ⟨G,0,none⟩)) rfl ar ah ?_;simp only [sS];refine av 5 (i64 x.en) rfl ar ah ?_;simp only [sS];refine av 6 (.bool false) rfl ar ah ?_;simp only [sS];refine av 7 (.bool false) rfl ar ah ?_;simp only [sS];refine av 8 (.bool false) rfl ar ah ?_;simp only [sS];refine cA 9 rfl ar ah ?_;simp only [sS];refine cA 10 rfl ar ah ?_;simp only [sS];refine cA 11 rfl ar ah ?_;simp only [sS];refine cA 12 rfl ar ah ?_;simp only [sS];refine cA 13 rfl ar ah ?_;simp only [sS];refine av 14 (.bool false) rfl ar ah ?_;simp only [sS];refine cG 15 rfl (fun Kc hK=> ?_);go_simp;refine (bN z1 K c s8 (false) 7 3 (pW.ext (xf.drew.trans xz))).mono ?_;rintro e jG ⟨rfl,vG,mB⟩;have iD:ak K W9 jG:=((xf.drew.trans xz).but K).trans mB;refine hK.out _ _ (⟨aR (ai xz EJ) mB bL,aR (ai xz g0) mB FQ,aR (ai xz g1) mB FQ⟩) (trivial) (fun ar ah=> ?_);clear hK Kc;try simp only [sS]
    refine ax (by kernel_rfl) ?_ _;clear ar ah mB xz EJ g0 g1;have vG:cY jG K c (s8.need (bq x.en x.ed&&decide (0<x.en)&&decide (x.en≤x.ed)) 7 3):=by(rw [hv,hp];simpa using vG)
    clear xf FQ;obtain ⟨s9,AE⟩: ∃s',s'=(s8.need (bq x.en x.ed&&decide (0<x.en)&&decide (x.en≤x.ed)) 7 3):=⟨_,rfl⟩;rw [←AE]at vG;have Jc:=ae AE;clear AE;clear kb c0 c1 c2 c3 c4 c5 c6 c7 c8;have bt:=ae (bt.out.but iD dR);have dg:=ae (dg.out.but iD bL)
    have wH:ak K V jG:=Ae.trans iD;have eP:Ext w0 jG:=iD.ext eP bB.out;clear iD Ae pW
   rotate_left
   focus
    refine ay (fun w'=>w'.cell? ⟨B,0,none⟩=some (.pointer (some ⟨K,0,none⟩))∧w'.cell? ⟨G,0,none⟩=some (i64 x.en)∧w'.cell? ⟨G,1,none⟩=some (i64 x.ed)) (fun w'=>True) (fun i=>false) (by kernel_rfl) (⟨EJ,g0,g1⟩) (trivial) (fun ar ah=> ?_);refine av 0 (.pointer (some ⟨K,0,none⟩)) rfl ar ah ?_;simp only [sS];refine av 1 (.agg #[i64 x.en,i64 x.ed]) rfl ar ah ?_;simp only [sS];refine cG 2 rfl (fun Kc hK=> ?_);go_simp;refine (ir Wf.drew x.en x.ed).mono ?_;rintro e z1 ⟨rfl,xz⟩;rw [hv];refine hK.out _ _ (⟨ai xz EJ,ai xz g0,ai xz g1⟩) (trivial) (fun ar ah=> ?_);clear hK Kc;try simp only [sS]
    refine av 3 (.bool false) rfl ar ah ?_;simp only [sS];refine cA 4 rfl ar ah ?_;simp only [sS];refine cA 5 rfl ar ah ?_;simp only [sS];refine cA 6 rfl ar ah ?_;simp only [sS];refine av 7 (.bool false) rfl ar ah ?_;simp only [sS];refine av 8 (.bool false) rfl ar ah ?_;simp only [sS];refine cA 9 rfl ar ah ?_;simp only [sS];refine cA 10 rfl ar ah ?_;simp only [sS];refine cA 11 rfl ar ah ?_;simp only [sS];refine cA 12 rfl ar ah ?_;simp only [sS];refine cA 13 rfl ar ah ?_;simp only [sS];refine av 14 (.bool false) rfl ar ah ?_;simp only [sS];refine cG 15 rfl (fun Kc hK=> ?_);go_simp;refine (bN z1 K c s8 (false) 7 3 (pW.ext (xf.drew.trans xz))).mono ?_;rintro e jG ⟨rfl,vG,mB⟩;have iD:ak K W9 jG:=((xf.drew.trans xz).but K).trans mB;refine hK.out _ _ (⟨aR (ai xz EJ) mB bL,aR (ai xz g0) mB FQ,aR (ai xz g1) mB FQ⟩) (trivial) (fun ar ah=> ?_);clear hK Kc;try simp only [sS]
    refine ax (by kernel_rfl) ?_ _;clear ar ah mB xz EJ g0 g1;have vG:cY jG K c (s8.need (bq x.en x.ed&&decide (0<x.en)&&decide (x.en≤x.ed)) 7 3):=by(rw [hv];simpa using vG)
    clear xf FQ;obtain ⟨s9,AE⟩: ∃s',s'=(s8.need (bq x.en x.ed&&decide (0<x.en)&&decide (x.en≤x.ed)) 7 3):=⟨_,rfl⟩;rw [←AE]at vG;have Jc:=ae AE;clear AE;clear kb c0 c1 c2 c3 c4 c5 c6 c7 c8;have bt:=ae (bt.out.but iD dR);have dg:=ae (dg.out.but iD bL)
    have wH:ak K V jG:=Ae.trans iD;have eP:Ext w0 jG:=iD.ext eP bB.out;clear iD Ae pW
   all_goals
    go_wp2_with fail
    exact ⟨⟨i+1,by omega,by rw [pU.out];unfold St.kH;rw [←oX.out,←nX.out,←Ad.out,←Ck.out,←Fv.out,←Ja.out,←LF.out,←LH.out,←Jc.out];exact vG,wH,dg.out,by go_num⟩,by simp only [intOf];omega⟩
  ·obtain rfl:i=c.stores.length:=by omega
   go_wp2_with fail
   exact bodyPost_end (v:= .tuple #[]) (by simp [results,Tryz.results82,go_sem]) rfl ⟨rfl,hk,hx⟩
def St.lO (s:St) (l:List cL):St:=l.foldl (fun s g=>(s.within 4 g.width 1 1048576).within 4 g.aX (-1048576) 1048576) s
def wJ (l:List cL) (j:Nat):Int:=(l[j]?.map cL.aX).getD 0
def St.gX (s:St) (l:List cL) (n:Nat):St:=(List.range n).foldl (fun s j=>if j=0 then s else s.need (decide (wJ l (j-1)≤wJ l j)) 4 11) s
def bS (l:List cL):Int:=(l.map cL.width).sum
def St.segments (s:St) (x:aF):St:=
 if(s.need (decide ((x.aI.length:Int)≤8)) 4 8).err≠0 then s.need (decide ((x.aI.length:Int)≤8)) 4 8
 else(((s.need (decide ((x.aI.length:Int)≤8)) 4 8).lO x.aI).gX x.aI x.aI.length).need (decide (bS x.aI=IntKind.i64.wrap (x.max-x.min))) 4 4
theorem wK {l:List cL} {j:Nat} (h:j<l.length):wJ l j=l[j].aX:=by unfold wJ;rw [List.getElem?_eq_getElem h];rfl
theorem St.AG (s:St) (l:List cL) (i:Nat) (h:i<l.length):s.lO (l.take (i+1))=((s.lO (l.take i)).within 4 l[i].width 1 1048576).within 4 l[i].aX (-1048576) 1048576:=by
 unfold St.lO;rw [List.take_succ_eq_append_getElem h,List.foldl_append];rfl
theorem mC (l:List cL) (i:Nat) (h:i<l.length):bS (l.take (i+1))=bS (l.take i)+l[i].width:=by
 unfold bS;rw [List.take_succ_eq_append_getElem h,List.map_append,List.sum_append];simp
theorem St.AH (s:St) (l:List cL) (p:Nat):s.gX l (p+1+1)=(s.gX l (p+1)).need (decide (wJ l p≤wJ l (p+1))) 4 11:=by
 unfold St.gX;rw [List.range_succ,List.foldl_append,List.foldl_cons,List.foldl_nil,if_neg (by omega)];rfl
theorem St.Dp (s:St) (l:List cL) (i:Nat) (h1:1≤i) (h:l.length≤i) (h2:i≤l.length∨i=1):s.gX l i=s.gX l l.length:=by
 rcases h2 with h2|rfl
 ·rw [Nat.le_antisymm h2 h]
 ·have:l.length=0∨l.length=1:=by omega
  rcases this with e|e<;>rw [e]<;>rfl
theorem St.wL {s:St} {ok:Bool} {f e:Int} (he:e≠0) (h:(s.need ok f e).err=0):s.err=0∧ok=true:=by
 have h0:=St.vw h;refine ⟨h0,?_⟩;cases ok with
 |true=>rfl
 |false=>unfold St.need at h;rw [if_pos ⟨h0,rfl⟩]at h;exact absurd h he
theorem St.vH {s:St} {f n a b:Int} (h:(s.within f n a b).err=0):s.err=0∧a≤n∧n≤b:=by
 obtain ⟨h1,h2⟩:=St.wL (by decide) h;rw [Bool.and_eq_true,decide_eq_true_eq,decide_eq_true_eq]at h2;exact ⟨h1,h2⟩
theorem AJ (z:Int):br (IntKind.i64.wrap z):=by unfold br;rw [IntKind.wrap_i64];omega
set_option maxHeartbeats 2000000 in
set_option maxRecDepth 100000 in
theorem AK (w0 V:World) (K:Nat) (c:aq) (s:St) (x:aF) (hK:w0.heap.size≤K) (hV:Ext w0 V) (hs:bP w0 2 x.sa x.sc (x.aI.map cL.cells)) (O_: ∀g∈x.aI,fp [g.width,g.aX]) (h:cY V K c s):
 Calls Tryz.prog 142 #[.pointer (some ⟨K,0,none⟩),.agg #[.string x.name,i64 x.cX,i64 x.min,i64 x.max,.slice x.sa x.aI.length x.sc,i64 x.cg,i64 x.cj,i64 x.a_,i64 x.aW,i64 x.bf,i64 x.bQ,i64 x.bg,i64 x.startTime,i64 x.bA,i64 x.bh,i64 x.bj,i64 x.az,i64 x.aJ,.slice x.aa x.away.length x.ac,i64 x.state,i64 x.hours,i64 x.output]] V fun e' w'=>km V K c (s.segments x) e' w':=by
 have vB:=h.lt;have hle:=hs.le;have di:=hs.cap
 rw [List.length_map]at hle;have HV:=ae hV;have HS:=ae hs;have LL:=ae O_;have bB:=ae hK
 have hC:=bN;unfold St.segments;obtain ⟨s1,hs1⟩: ∃s1,s.need (decide ((x.aI.length:Int)≤8)) 4 8=s1:=⟨_,rfl⟩
 have yw:s1.err=0→x.aI.length≤8:=fun h0=>by
  rw [←hs1]at h0;have:=(St.wL (by decide) h0).2;rw [decide_eq_true_eq]at this;omega
 have Pa: ∀U,cY U K c s→Calls Tryz.prog 134 #[.pointer (some ⟨K,0,none⟩),.bool (decide ((x.aI.length:Int)≤8)),i64 4,i64 8] U fun e' w'=>km U K c s1 e' w':=fun U hU=>by
  have h5:=bN U K c s (decide ((x.aI.length:Int)≤8)) 4 8 hU;rw [hs1]at h5;exact h5
 rw [hs1];obtain ⟨M,hM⟩: ∃M,IntKind.i64.wrap (x.max-x.min)=M:=⟨_,rfl⟩;rw [hM];obtain ⟨sf,LM⟩: ∃sf,(if s1.err≠0 then s1 else((s1.lO x.aI).gX x.aI x.aI.length).need (decide (bS x.aI=M)) 4 4)=sf:=⟨_,rfl⟩;rw [LM];have FR:=ae LM;clear LM;have FT:=ae Pa;have HL8:=ae yw;have HH:=ae h
 clear hC hs hV O_ h Pa yw hs1 hK;go_enter Tryz.func142,Tryz.ntmps142
 go_upto_region 1 with fail
 obtain ⟨W,hW,x0,Z0,A0⟩:=aB V 67 x.cells;rw [show V.alloc (.cells #[.string x.name,i64 x.cX,i64 x.min,i64 x.max,.slice x.sa x.aI.length x.sc,i64 x.cg,i64 x.cj,i64 x.a_,i64 x.aW,i64 x.bf,i64 x.bQ,i64 x.bg,i64 x.startTime,i64 x.bA,i64 x.bh,i64 x.bj,i64 x.az,i64 x.aJ,.slice x.aa x.away.length x.ac,i64 x.state,i64 x.hours,i64 x.output] 67)=W from hW.symm];clear hW;obtain ⟨B,hB⟩: ∃B,B=V.heap.size:=⟨_,rfl⟩;rw [←hB]at A0⊢;have bL:B≠K:=by omega
 have kr:=ae hB;have ju:=ae A0;clear hB Z0 A0;obtain ⟨u0,u1,u2,u3,u4,u5,u6,u7,u8,u9,u10,u11,u12,u13,u14,u15,u16,u17,u18,u19,u20,u21⟩:=aF.at ju.out;go_wp2_with fail
 refine (FT.out W (HH.out.ext x0)).mono ?_;rintro e W1 ⟨rfl,ni,hx1⟩;clear u0 u1 u2 u3 u4 u5 u6 u7 u8 u9 u10 u11 u12 u13 u14 u15 u16 u17 u18 u19 u20 u21;have bt:=ae (ju.out.but hx1 bL);have nM:ak K V W1:=(x0.but K).trans hx1;obtain ⟨-,-,-,Pc,-⟩:=mq ni;obtain ⟨u0,u1,u2,u3,u4,u5,u6,u7,u8,u9,u10,u11,u12,u13,u14,u15,u16,u17,u18,u19,u20,u21⟩:=aF.at bt.out;clear hx1 x0 ju HH FT;by_cases h0:s1.err=0
 rotate_left
 ·have t1:(s1.err !=0)=true:=by simpa using h0
  have hf:=FR.out;rw [if_pos h0]at hf;rw [hf]at ni;have H1:=ae ni;clear h0 hf ni;go_wp2_with fail
  exact bodyPost_ret (v:= .tuple #[]) (by simp [results,Tryz.results142,go_sem]) rfl ⟨rfl,H1.out,nM⟩
 have t1:(s1.err !=0)=false:=by simpa using h0
 have h8:=HL8.out h0;have Xn:=ae ni;have eK:=ae nM;have KO:=ae h0
 clear h0 ni nM;go_wp2_with fail
 clear Pc t1 u0 u1 u2 u3 u4 u5 u6 u7 u8 u9 u10 u11 u12 u13 u14 u15 u16 u17 u18 u19 u20 u21;go_loopw [4,22] (fun vs ii wr=> ∃(i:Nat) (t:Int),i≤x.aI.length∧cY wr K c (s1.lO (x.aI.take i))∧ak K V wr∧aG wr B 67 x.cells∧br t∧((s1.lO (x.aI.take i)).err=0→t=bS (x.aI.take i)∧0≤t∧t≤i*1048576)∧vs= .int .i64 t∧ii= .int .i64 i) (fun _ ii _=>x.aI.length-(intOf ii).toNat)
 case atStart=>exact ⟨0,0,Nat.zero_le _,Xn.out,eK.out,bt.out,by unfold br;omega,fun _=>⟨rfl,by omega,by omega⟩,rfl,rfl⟩
 case round=>
  obtain ⟨i,t,hi,hk,hx,hA,aap,yx,rfl,rfl⟩:=hrel;clear Xn eK bt;by_cases hlt:i<x.aI.length
  ·have hE:=hx.ext HV.out bB.out
   obtain ⟨b,o,ha,c0,c1⟩:=(HS.out.ext hE).aI i hlt;have rL:=ae (St.AG s1 x.aI i hlt);have ku:=ae (mC x.aI i hlt)
   have FU:=LL.out x.aI[i] (List.getElem_mem hlt);obtain ⟨u0,u1,u2,u3,u4,u5,u6,u7,u8,u9,u10,u11,u12,u13,u14,u15,u16,u17,u18,u19,u20,u21⟩:=aF.at hA;generalize s1.lO (x.aI.take i)=s2 at*;generalize bS (x.aI.take i)=σ at*;obtain ⟨g,hg⟩: ∃g,g=x.aI[i]:=⟨_,rfl⟩;rw [←hg]at c0 c1 rL ku FU;have pS:=ae hk;have dC:=ae hx;have nY:=ae hA;have TP:=ae yx;have HE:=ae hE
   have fM:(0:Int)≤(i:Int):=by omega
   have fH:(i:Int)<(x.aI.length:Int):=by omega
   clear hk hx hA yx hE hg u0 u1 u2 u3 u4 u5 u6 u7 u8 u9 u10 u11 u12 u13 u14 u15 u16 u17 u18 u19 u20 u21;rw [ha];go_upto_region 7 with fail
   obtain ⟨W2,hW2,x2,Z2,A2⟩:=aB wr 138 g.cells;rw [show wr.alloc (.cells #[i64 g.width,i64 g.aX] 138)=W2 from hW2.symm];obtain ⟨E,j5⟩: ∃E,E=wr.heap.size:=⟨_,rfl⟩;rw [←j5]at A2⊢;have dR:E≠K:=by have:=pS.out.lt;omega
   have EK:=ae A2;clear hW2 j5 Z2 A2 c0 c1;obtain ⟨e0,e1⟩:=cL.at EK.out;go_wp2_with fail
   refine (bM W2 K c s2 4 g.width 1 1048576 (pS.out.ext x2)).mono ?_;rintro e W3 ⟨rfl,hK3,hx3⟩;clear e0 e1;have Pd:=ae (EK.out.but hx3 dR);obtain ⟨e0,e1⟩:=cL.at Pd.out;go_wp2_with fail
   refine (bM W3 K c _ 4 g.aX (-1048576) 1048576 hK3).mono ?_;rintro e W4 ⟨rfl,hK4,fN⟩;clear e0 e1;have TQ:=ae (Pd.out.but fN dR);obtain ⟨e0,e1⟩:=cL.at TQ.out;have vF:ak K V W4:=dC.out.trans ((x2.but K).trans (hx3.trans fN));have vI:Hid (aG W4 B 67 x.cells):=(((nY.out.ext x2).but hx3 bL).but fN bL);obtain ⟨t',Xo⟩: ∃t',IntKind.i64.wrap (t+g.width)=t':=⟨_,rfl⟩;have KP:br t':=Xo▸AJ _
   have KQ:((s2.within 4 g.width 1 1048576).within 4 g.aX (-1048576) 1048576).err=0→t'=σ+g.width∧0≤t'∧t'≤((i+1:Nat):Int)*1048576:=fun he=>by
    obtain ⟨Ac,-,-⟩:=St.vH he;obtain ⟨IA,ha1,ha2⟩:=St.vH Ac;obtain ⟨hb1,hb2,hb3⟩:=TP.out IA;have:t'=t+g.width:=by rw [←Xo,IntKind.wrap_i64];omega
    omega
   have TR:=ae KQ;have FV:=ae hK4;have nK:=ae vF;have H64:=ae KP
   clear hK3 hx3 fN hK4 vF KQ KP x2;go_wp2_with fail
   exact ⟨⟨i+1,t',by omega,by rw [rL.out];exact FV.out,nK.out,vI.out,H64.out,by rw [rL.out,ku.out];exact TR.out,rfl,by go_num⟩,by simp only [intOf];omega⟩
  ·obtain rfl:i=x.aI.length:=by omega
   rw [List.take_length]at hk yx;have wM:cY wr K c ((s1.lO x.aI).gX x.aI 1):=hk;obtain ⟨s2,hs2⟩: ∃s2,s1.lO x.aI=s2:=⟨_,rfl⟩;rw [hs2]at yx wM;have nX:=ae hs2;have TP:=ae yx;have Je:=ae wM;have dC:=ae hx;have nY:=ae hA
   clear hk yx wM hx hA hs2;go_wp2_with fail
   go_loopw [7] (fun ii wl=> ∃i:Nat,1≤i∧(i≤x.aI.length∨i=1)∧cY wl K c (s2.gX x.aI i)∧ak K V wl∧aG wl B 67 x.cells∧ii= .int .i64 i) (fun ii _=>x.aI.length-(intOf ii).toNat)
   case atStart=>exact ⟨1,Nat.le_refl _,Or.inr rfl,Je.out,dC.out,nY.out,rfl⟩
   case round=>
    obtain ⟨i,h1,hi,hk,hx,hA,rfl⟩:=hrel;clear Je dC nY;obtain ⟨u0,u1,u2,u3,u4,u5,u6,u7,u8,u9,u10,u11,u12,u13,u14,u15,u16,u17,u18,u19,u20,u21⟩:=aF.at hA;by_cases hlt:i<x.aI.length
    ·obtain ⟨p,rfl⟩: ∃p,i=p+1:=⟨i-1,by omega⟩
     have hE:=hx.ext HV.out bB.out;obtain ⟨b,o,ha,-,q1⟩:=(HS.out.ext hE).aI (p+1) hlt;obtain ⟨b',o',ha',-,q0⟩:=(HS.out.ext hE).aI p (by omega);rw [ha]at ha';cases ha'
     rw [←wK hlt]at q1;rw [←wK (show p<x.aI.length by omega)]at q0;have O6:=ae (St.AH s2 x.aI p);have vC:=ae (fun U (hU:cY U K c (s2.gX x.aI (p+1)))=>bN U K c (s2.gX x.aI (p+1)) (decide (wJ x.aI p≤wJ x.aI (p+1))) 4 11 hU);have j3:=ae ha;have pS:=ae hk;have dC:=ae hx;have nY:=ae hA
     have hw:IntKind.i64.wrap (((p+1:Nat):Int)-1)=(p:Int):=by rw [IntKind.wrap_i64];omega
     have hw2:IntKind.i64.wrap (p:Int)=(p:Int):=by rw [IntKind.wrap_i64];omega
     have fM:(0:Int)≤((p+1:Nat):Int):=by omega
     have fH:((p+1:Nat):Int)<(x.aI.length:Int):=by omega
     have Lt:(0:Int)≤(p:Int):=by omega
     have Lu:(p:Int)<(x.aI.length:Int):=by omega
     have I5:(0:Int)≤(p:Int)+1:=by omega
     have Lv:(p:Int)+1<(x.aI.length:Int):=by omega
     have O0: ¬((p:Int)+1<0):=by omega
     generalize wJ x.aI (p+1)=y1 at*;generalize wJ x.aI p=y0 at*;generalize s2.gX x.aI (p+1)=s3 at*
     have Xp: ∀U:World,(∀q v,wr.cell? q=some v→q.block≠K→U.cell? q=some v)→U.cell? ⟨B,4,none⟩=some (.slice x.sa x.aI.length x.sc)∧U.cell? ⟨b,o+(p+1)*2+1,none⟩=some (i64 y1)∧U.cell? ⟨b,o+p*2+1,none⟩=some (i64 y0):=fun U hU=>by
      have EG:b≠K:=by
       obtain ⟨b'',o'',FW,z0,-⟩:=HS.out.aI p (by omega);rw [j3.out]at FW;cases FW
       have:=cU z0;simp only at this;have:=bB.out;omega
      exact ⟨hU _ _ u4 bL,hU _ _ q1 EG,hU _ _ q0 EG⟩
     have Pe:=ae Xp;clear ha;clear hk hx hA hE Xp q1 q0 u0 u1 u2 u3 u5 u6 u7 u8 u9 u10 u11 u12 u13 u14 u15 u16 u17 u18 u19 u20 u21;go_wp2_with fail
     clear u4;refine ay (fun w'=>w'.cell? ⟨B,4,none⟩=some (.slice x.sa x.aI.length x.sc)∧w'.cell? ⟨b,o+(p+1)*2+1,none⟩=some (i64 y1)∧w'.cell? ⟨b,o+p*2+1,none⟩=some (i64 y0)) (fun w'=>True) (fun i=>false) (by kernel_rfl) (Pe.out _ (fun _ _ hq _=>hq)) (trivial) (fun ar ah=> ?_);refine av 0 (.pointer (some ⟨K,0,none⟩)) rfl ar ah ?_;simp only [sS];refine av 1 (.pointer (some ⟨B,4,none⟩)) rfl ar ah ?_;simp only [sS];refine av 2 (.slice x.sa x.aI.length x.sc) rfl ar ah ?_;simp only [sS];refine av 3 (.int .i64 ((p+1:Nat):Int)) rfl ar ah ?_;simp only [sS];refine av 4 (.pointer (some ⟨b,o+(p+1)*2,none⟩)) rfl ar ah ?_ (by rintro w ⟨e0,e1,e2⟩;have ha:=j3.out;go_simp);simp only [sS];refine av 5 (.pointer (some ⟨b,o+(p+1)*2+1,none⟩)) rfl ar ah ?_;simp only [sS];refine av 6 (i64 y1) rfl ar ah ?_;simp only [sS];refine av 7 (.pointer (some ⟨B,4,none⟩)) rfl ar ah ?_;simp only [sS];refine av 8 (.slice x.sa x.aI.length x.sc) rfl ar ah ?_;simp only [sS];refine av 9 (.int .i64 ((p+1:Nat):Int)) rfl ar ah ?_;simp only [sS];refine av 10 (.int .i64 (p:Int)) rfl ar ah ?_;simp only [sS];refine av 11 (.pointer (some ⟨b,o+p*2,none⟩)) rfl ar ah ?_ (by rintro w ⟨e0,e1,e2⟩;have ha:=j3.out;go_simp);simp only [sS];refine av 12 (.pointer (some ⟨b,o+p*2+1,none⟩)) rfl ar ah ?_;simp only [sS];refine av 13 (i64 y0) rfl ar ah ?_;simp only [sS];refine av 14 (.bool (decide (y0≤y1))) rfl ar ah ?_;simp only [sS];refine cG 15 rfl (fun Kc hK=> ?_);go_simp;refine (vC.out wr.drew (pS.out.ext (Ext.refl _).drew)).mono ?_;rintro e W5 ⟨rfl,jX,dA⟩;refine hK.out _ _ (Pe.out _ (fun q v hq hb=>aR (ai (Ext.refl wr).drew hq) dA hb)) (trivial) (fun ar ah=> ?_);clear hK Kc;try simp only [sS]
     refine ax (by kernel_rfl) ?_ _;clear ar ah;have yy:Hid (aG W5 B 67 x.cells):=(nY.out.ext (Ext.refl _).drew).but dA bL;have rK:ak K V W5:=dC.out.trans (((Ext.refl wr).drew.but K).trans dA);clear dA;go_wp2_with fail
     exact ⟨⟨p+1+1,by omega,Or.inl (by omega),by rw [O6.out];exact jX,rK,yy.out,by go_num⟩,by simp only [intOf];omega⟩
    ·have hmx:=St.Dp s2 x.aI i h1 (by omega) hi
     rw [hmx]at hk;obtain ⟨s3,hs3⟩: ∃s3,s2.gX x.aI x.aI.length=s3:=⟨_,rfl⟩
     have hz:s3.err=0→s2.err=0:=fun he=>by
      rw [←hs3]at he;apply Classical.byContradiction;intro hne
      have key: ∀n,s2.gX x.aI n=s2:=by
       intro n;induction n with
       |zero=>rfl
       |succ n ih=>
        have e1:s2.gX x.aI (n+1)=(if n=0 then s2.gX x.aI n else(s2.gX x.aI n).need (decide (wJ x.aI (n-1)≤wJ x.aI n)) 4 11):=by
         unfold St.gX;rw [List.range_succ,List.foldl_append,List.foldl_cons,List.foldl_nil]
        rw [e1,ih];split
        ·rfl
        ·exact St.fQ _ _ _ _ hne
      rw [key]at he;exact hne he
     rw [hs3]at hk
     have yl:s3.need (t==M) 4 4=s3.need (decide (bS x.aI=M)) 4 4:=by
      by_cases he:s3.err=0
      ·obtain ⟨e1,-,-⟩:=TP.out (hz he)
       rw [←e1];have hb:(t==M)=decide (t=M):=by rw [Bool.eq_iff_iff];simp
       rw [hb]
      ·rw [St.fQ _ _ _ _ he,St.fQ _ _ _ _ he]
     have vC:=ae (bN wr K c s3 (t==M) 4 4 hk)
     have hend:s3.need (t==M) 4 4=sf:=by
      have h9:=FR.out;rw [if_neg (fun hne=>hne KO.out),nX.out,hs3]at h9;rw [yl,h9]
     rw [hend]at vC;have dC:=ae hx;clear hk hx hA hmx hz yl hs3 hend;go_wp2_with fail
     refine vC.out.mono ?_;rintro e W5 ⟨rfl,jX,dA⟩;go_wp2_with fail
     exact bodyPost_end (v:= .tuple #[]) (by simp [results,Tryz.results142,go_sem]) rfl ⟨rfl,jX,dC.out.trans dA⟩
def gH (g:cL):Bool:=aY 1 1048576 [g.width]&&aY (-1048576) 1048576 [g.aX]
def mD (l:List cL) (n:Nat):Bool:=(List.range n).all fun j=>j==0||decide (wJ l (j-1)≤wJ l j)
def jI (e:Int) (x:aF):Int:=nd (nd (nd (nd e (decide ((x.aI.length:Int)≤8)) 8) (x.aI.all gH) 3) (mD x.aI x.aI.length) 11) (decide (bS x.aI=IntKind.i64.wrap (x.max-x.min))) 4
theorem FX (l:List cL):mD l 1=true:=rfl
theorem Dq (l:List cL) (p:Nat):mD l (p+1+1)=(mD l (p+1)&&decide (wJ l p≤wJ l (p+1))):=by
 unfold mD;rw [List.range_succ,List.all_append];simp
theorem FY (l:List cL) (i:Nat) (h1:1≤i) (h:l.length≤i) (h2:i≤l.length∨i=1):mD l i=mD l l.length:=by
 rcases h2 with h2|rfl
 ·rw [Nat.le_antisymm h2 h]
 ·have:l.length=0∨l.length=1:=by omega
  rcases this with e|e<;>rw [e]<;>rfl
theorem yz (l:List cL) (i:Nat) (h:i<l.length):(l.take (i+1)).all gH=((l.take i).all gH&&gH l[i]):=by
 rw [List.take_succ_eq_append_getElem h,List.all_append];simp
theorem bm {e:Int} {ok:Bool} {code:Int} (hc:code≠0) (h:nd e ok code=0):e=0∧ok=true:=by
 unfold nd at h;split at h
 ·exact absurd h hc
 ·rename_i hn
  subst h;refine ⟨rfl,?_⟩;cases ok with
  |true=>rfl
  |false=>exact absurd ⟨rfl,rfl⟩ hn
theorem wN (l:List cL) (h:l.all gH=true): ∀i,i≤l.length→0≤bS (l.take i)∧bS (l.take i)≤i*1048576:=by
 intro i;induction i with
 |zero=>intro _;simp [bS]
 |succ i ih=>
  intro hi;have:=ih (by omega);have eR:gH l[i]=true:=List.all_eq_true.1 h _ (List.getElem_mem (by omega));rw [mC l i (by omega)];unfold gH aY at eR;simp at eR;omega
set_option maxHeartbeats 4000000 in
set_option maxRecDepth 100000 in
theorem wO (w0 V:World) (K:Nat) (e:Int) (x:aF) (ix:Int) (hK:w0.heap.size≤K) (hV:Ext w0 V) (hs:bP w0 2 x.sa x.sc (x.aI.map cL.cells)) (O_: ∀g∈x.aI,fp [g.width,g.aX]) (h:FE V K e):
 Calls Tryz.prog 101 #[.pointer (some ⟨K,0,none⟩),.agg #[.string x.name,i64 x.cX,i64 x.min,i64 x.max,.slice x.sa x.aI.length x.sc,i64 x.cg,i64 x.cj,i64 x.a_,i64 x.aW,i64 x.bf,i64 x.bQ,i64 x.bg,i64 x.startTime,i64 x.bA,i64 x.bh,i64 x.bj,i64 x.az,i64 x.aJ,.slice x.aa x.away.length x.ac,i64 x.state,i64 x.hours,i64 x.output],i64 ix] V fun e' w'=>rG V K (jI e x) e' w':=by
 have vB:=h.lt;have hle:=hs.le;have di:=hs.cap
 rw [List.length_map]at hle;have HV:=ae hV;have HS:=ae hs;have LL:=ae O_;have bB:=ae hK
 unfold jI;obtain ⟨e1,Ac⟩: ∃e1,nd e (decide ((x.aI.length:Int)≤8)) 8=e1:=⟨_,rfl⟩;have FT:=ae (fun U (hU:FE U K e)=>aU U K e (decide ((x.aI.length:Int)≤8)) 3 ix 4 8 hU);rw [Ac]at FT⊢
 have yw:e1=0→x.aI.length≤8:=fun h0=>by
  rw [←Ac]at h0;have:=(bm (by decide) h0).2;rw [decide_eq_true_eq]at this;omega
 obtain ⟨M,hM⟩: ∃M,IntKind.i64.wrap (x.max-x.min)=M:=⟨_,rfl⟩;rw [hM];obtain ⟨e2,IA⟩: ∃e2,nd e1 (x.aI.all gH) 3=e2:=⟨_,rfl⟩;rw [IA];obtain ⟨e3,KR⟩: ∃e3,nd e2 (mD x.aI x.aI.length) 11=e3:=⟨_,rfl⟩;rw [KR]
 have hz:e3=0→x.aI.length≤8∧x.aI.all gH=true:=fun h0=>by
  rw [←KR]at h0;have h1:=(bm (by decide) h0).1;rw [←IA]at h1;have h2:=bm (by decide) h1;exact ⟨yw h2.1,h2.2⟩
 have sy:=ae IA;have yA:=ae KR;have HZ:=ae hz;have HH:=ae h
 clear hs hV O_ h yw Ac IA KR hz hK;go_enter Tryz.func101,Tryz.ntmps101
 go_upto_region 1 with fail
 obtain ⟨W,hW,x0,Z0,A0⟩:=aB V 67 x.cells;rw [show V.alloc (.cells #[.string x.name,i64 x.cX,i64 x.min,i64 x.max,.slice x.sa x.aI.length x.sc,i64 x.cg,i64 x.cj,i64 x.a_,i64 x.aW,i64 x.bf,i64 x.bQ,i64 x.bg,i64 x.startTime,i64 x.bA,i64 x.bh,i64 x.bj,i64 x.az,i64 x.aJ,.slice x.aa x.away.length x.ac,i64 x.state,i64 x.hours,i64 x.output] 67)=W from hW.symm];clear hW;obtain ⟨B,hB⟩: ∃B,B=V.heap.size:=⟨_,rfl⟩;rw [←hB]at A0⊢;have bL:B≠K:=by omega
 have ju:=ae A0;have X0:=ae x0
 have u4:W.cell? ⟨B,4,none⟩=some (.slice x.sa x.aI.length x.sc):=(A0.cell 4).trans rfl;clear hB Z0 A0 x0;go_wp2_with fail
 refine (FT.out W (HH.out.ext X0.out)).mono ?_;rintro e5 W1 ⟨rfl,SL,hx1⟩;clear u4;have bt:=ae (ju.out.but hx1 bL);have eK:=ae ((X0.out.but K).trans hx1);have sV:=ae SL;have u4:=bt.out.cl 4 (.slice x.sa x.aI.length x.sc) rfl;clear hx1 ju HH FT X0 SL;go_wp2_with fail
 clear u4;go_loopw [23] (fun ii wr=> ∃i:Nat,i≤x.aI.length∧FE wr K (nd e1 ((x.aI.take i).all gH) 3)∧ak K V wr∧aG wr B 67 x.cells∧ii= .int .i64 i) (fun ii _=>x.aI.length-(intOf ii).toNat)
 case atStart=>exact ⟨0,Nat.zero_le _,by simpa [bk]using sV.out,eK.out,bt.out,rfl⟩
 case round=>
  obtain ⟨i,hi,hF,hX,hA,rfl⟩:=hrel;clear sV eK bt;by_cases hlt:i<x.aI.length
  ·have hE:=hX.ext HV.out bB.out
   obtain ⟨b,o,ha,c0,c1⟩:=(HS.out.ext hE).aI i hlt;have HT:=ae (yz x.aI i hlt);have FU:=LL.out x.aI[i] (List.getElem_mem hlt);generalize (x.aI.take i).all gH=q at*;obtain ⟨g,hg⟩: ∃g,g=x.aI[i]:=⟨_,rfl⟩;rw [←hg]at c0 c1 HT FU;have TT:=ae (FU g.width (by simp));have TU:=ae (FU g.aX (by simp))
   have HF:=ae hF;have HX:=ae hX;have HA:=ae hA;have HE:=ae hE
   have fM:(0:Int)≤(i:Int):=by omega
   have fH:(i:Int)<(x.aI.length:Int):=by omega
   clear hF hX hA hE hg FU;rw [ha];go_upto_region 6 with fail
   obtain ⟨W2,hW2,x2,Z2,A2⟩:=aB wr 138 g.cells;rw [show wr.alloc (.cells #[i64 g.width,i64 g.aX] 138)=W2 from hW2.symm];clear hW2;obtain ⟨E,j5⟩: ∃E,E=wr.heap.size:=⟨_,rfl⟩;rw [←j5]at A2⊢;have dR:E≠K:=by have:=HF.out.lt;omega
   have EK:=ae A2;have EL:=ae (HF.out.ext x2);have nY:=ae (HA.out.ext x2)
   have dC:Hid (ak K V W2):=HX.out.trans (x2.but K);have SM:=ae (lM e1 q (gH g) 3 (by decide));clear j5 Z2 A2 c0 c1 x2 ha;have z0:=EK.out.cl 0 (i64 g.width) rfl;have z1:=EK.out.cl 1 (i64 g.aX) rfl;have HQ:=ae (show gH g=(aY 1 1048576 [g.width]&&aY (-1048576) 1048576 [g.aX])from rfl);have AO:=ae (gh W2 g.width 1 1048576 TT.out);rcases Bool.eq_false_or_eq_true (aY 1 1048576 [g.width])with hp|hp
   ·rw [hp]at AO HQ
    clear hp;go_wp2_with fail
    refine AO.out.mono ?_;rintro e6 w1 ⟨rfl,rfl⟩;obtain ⟨W3,hW3,x3,Z3,-⟩:=aB W2 3 [i64 g.width];rw [show W2.alloc (.cells #[i64 g.width] 3)=W3 from hW3.symm];have z1:=ai x3 z1;have jY:=ae x3;clear z0 hW3 Z3 x3;go_wp2_with fail
    refine (gh W3 g.aX (-1048576) 1048576 TU.out).mono ?_;rintro e6 w1 ⟨rfl,rfl⟩;go_wp2_with fail
    refine (aU _ K _ _ _ _ _ _ ((EL.out.ext jY.out).alloc _)).mono ?_;rintro e6 W4 ⟨rfl,Fs,fN⟩;have KJ:=ae Fs;have nK:Hid (ak K V W4):=((dC.out.trans (jY.out.but K)).alloc' _).trans fN;have vI:Hid (aG W4 B 67 x.cells):=((nY.out.ext jY.out).alloc' _).but fN bL;clear Fs fN;go_wp2_with fail
    exact ⟨⟨i+1,by omega,by rw [HT.out,←SM.out,HQ.out,Bool.true_and];exact KJ.out,nK.out,vI.out,by go_num⟩,by simp only [intOf];omega⟩
   ·rw [hp]at AO HQ
    clear hp;go_wp2_with fail
    refine AO.out.mono ?_;rintro e6 w1 ⟨rfl,rfl⟩;go_wp2_with fail
    refine (aU _ K _ _ _ _ _ _ (EL.out.alloc _)).mono ?_;rintro e6 W4 ⟨rfl,Fs,fN⟩;have KJ:=ae Fs;have nK:Hid (ak K V W4):=(dC.out.alloc' _).trans fN;have vI:Hid (aG W4 B 67 x.cells):=(nY.out.alloc' _).but fN bL;clear Fs fN;go_wp2_with fail
    exact ⟨⟨i+1,by omega,by rw [HT.out,←SM.out,HQ.out,Bool.false_and];exact KJ.out,nK.out,vI.out,by go_num⟩,by simp only [intOf];omega⟩
  ·obtain rfl:i=x.aI.length:=by omega
   rw [List.take_length,sy.out]at hF;have sV:=ae hF;have eK:=ae hX;have bt:=ae hA
   clear hF hX hA;go_wp2_with fail
   go_loopw [9] (fun ii wl=> ∃i:Nat,1≤i∧(i≤x.aI.length∨i=1)∧FE wl K (nd e2 (mD x.aI i) 11)∧ak K V wl∧aG wl B 67 x.cells∧ii= .int .i64 i) (fun ii _=>x.aI.length-(intOf ii).toNat)
   case atStart=>exact ⟨1,Nat.le_refl _,Or.inr rfl,by simpa [bk,FX]using sV.out,eK.out,bt.out,rfl⟩
   case round=>
    obtain ⟨i,h1,hi,hF,hX,hA,rfl⟩:=hrel;clear sV eK bt;have u4:wr.cell? ⟨B,4,none⟩=some (.slice x.sa x.aI.length x.sc):=(hA.cell 4).trans rfl;by_cases hlt:i<x.aI.length
    ·obtain ⟨p,rfl⟩: ∃p,i=p+1:=⟨i-1,by omega⟩
     have hE:=hX.ext HV.out bB.out;obtain ⟨b,o,ha,-,q1⟩:=(HS.out.ext hE).aI (p+1) hlt;obtain ⟨b',o',ha',-,q0⟩:=(HS.out.ext hE).aI p (by omega);rw [ha]at ha';cases ha'
     rw [←wK hlt]at q1;rw [←wK (show p<x.aI.length by omega)]at q0;have O6:=ae (Dq x.aI p);have j3:=ae ha;have EL:=ae hF;have dC:=ae hX;have nY:=ae hA
     have hw:IntKind.i64.wrap (((p+1:Nat):Int)-1)=(p:Int):=by rw [IntKind.wrap_i64];omega
     have hw2:IntKind.i64.wrap (p:Int)=(p:Int):=by rw [IntKind.wrap_i64];omega
     have fM:(0:Int)≤((p+1:Nat):Int):=by omega
     have fH:((p+1:Nat):Int)<(x.aI.length:Int):=by omega
     have Lt:(0:Int)≤(p:Int):=by omega
     have Lu:(p:Int)<(x.aI.length:Int):=by omega
     have I5:(0:Int)≤(p:Int)+1:=by omega
     have Lv:(p:Int)+1<(x.aI.length:Int):=by omega
     have O0: ¬((p:Int)+1<0):=by omega
     generalize wJ x.aI (p+1)=y1 at*;generalize wJ x.aI p=y0 at*;generalize mD x.aI (p+1)=q at*;have vC:=ae (fun U (hU:FE U K (nd e2 q 11))=>aU U K (nd e2 q 11) (decide (y0≤y1)) 3 ix 4 11 hU)
     have Pe:=ae (show∀U:World,(∀q v,wr.cell? q=some v→q.block≠K→U.cell? q=some v)→U.cell? ⟨B,4,none⟩=some (.slice x.sa x.aI.length x.sc)∧U.cell? ⟨b,o+(p+1)*2+1,none⟩=some (i64 y1)∧U.cell? ⟨b,o+p*2+1,none⟩=some (i64 y0)from fun U hU=>by
      have EG:b≠K:=by
       obtain ⟨b'',o'',FW,z0,-⟩:=HS.out.aI p (by omega);rw [j3.out]at FW;cases FW
       have:=cU z0;simp only at this;have:=bB.out;omega
      exact ⟨hU _ _ u4 bL,hU _ _ q1 EG,hU _ _ q0 EG⟩)
     clear ha hF hX hA hE q1 q0;go_wp2_with fail
     clear u4;refine ay (fun w'=>w'.cell? ⟨B,4,none⟩=some (.slice x.sa x.aI.length x.sc)∧w'.cell? ⟨b,o+(p+1)*2+1,none⟩=some (i64 y1)∧w'.cell? ⟨b,o+p*2+1,none⟩=some (i64 y0)) (fun w'=>True) (fun i=>false) (by kernel_rfl) (Pe.out _ (fun _ _ hq _=>hq)) (trivial) (fun ar ah=> ?_);refine av 0 (.pointer (some ⟨K,0,none⟩)) rfl ar ah ?_;simp only [sS];refine av 1 (.pointer (some ⟨B,4,none⟩)) rfl ar ah ?_;simp only [sS];refine av 2 (.slice x.sa x.aI.length x.sc) rfl ar ah ?_;simp only [sS];refine av 3 (.int .i64 ((p+1:Nat):Int)) rfl ar ah ?_;simp only [sS];refine av 4 (.pointer (some ⟨b,o+(p+1)*2,none⟩)) rfl ar ah ?_ (by rintro w ⟨e0,e1,e2⟩;have ha:=j3.out;go_simp);simp only [sS];refine av 5 (.pointer (some ⟨b,o+(p+1)*2+1,none⟩)) rfl ar ah ?_;simp only [sS];refine av 6 (i64 y1) rfl ar ah ?_;simp only [sS];refine av 7 (.pointer (some ⟨B,4,none⟩)) rfl ar ah ?_;simp only [sS];refine av 8 (.slice x.sa x.aI.length x.sc) rfl ar ah ?_;simp only [sS];refine av 9 (.int .i64 ((p+1:Nat):Int)) rfl ar ah ?_;simp only [sS];refine av 10 (.int .i64 (p:Int)) rfl ar ah ?_;simp only [sS];refine av 11 (.pointer (some ⟨b,o+p*2,none⟩)) rfl ar ah ?_ (by rintro w ⟨e0,e1,e2⟩;have ha:=j3.out;go_simp);simp only [sS];refine av 12 (.pointer (some ⟨b,o+p*2+1,none⟩)) rfl ar ah ?_;simp only [sS];refine av 13 (i64 y0) rfl ar ah ?_;simp only [sS];refine av 14 (.bool (decide (y0≤y1))) rfl ar ah ?_;simp only [sS];refine av 15 (i64 3) rfl ar ah ?_;simp only [sS];refine av 16 (i64 ix) rfl ar ah ?_;simp only [sS];refine cG 17 rfl (fun Kc hK=> ?_);go_simp;refine (vC.out wr.drew (EL.out.ext (Ext.refl _).drew)).mono ?_;rintro e5 W5 ⟨rfl,Fu,dA⟩;refine hK.out _ _ (Pe.out _ (fun q v hq hb=>aR (ai (Ext.refl wr).drew hq) dA hb)) (trivial) (fun ar ah=> ?_);clear hK Kc;try simp only [sS]
     refine ax (by kernel_rfl) ?_ _;clear ar ah
     have TM:Hid (FE W5 K (nd e2 (q&&decide (y0≤y1)) 11)):=by
      show FE _ _ _;rw [←lM _ _ _ _ (by decide)];exact Fu
     have yy:Hid (aG W5 B 67 x.cells):=(nY.out.ext (Ext.refl _).drew).but dA bL;have su:Hid (ak K V W5):=dC.out.trans (((Ext.refl wr).drew.but K).trans dA);clear Fu dA;go_wp2_with fail
     exact ⟨⟨p+1+1,by omega,Or.inl (by omega),by rw [O6.out];exact TM.out,su.out,yy.out,by go_num⟩,by simp only [intOf];omega⟩
    ·rw [FY x.aI i h1 (by omega) hi,yA.out]at hF
     have sV:=ae hF;have eK:=ae hX;have bt:=ae hA
     clear hF hX hA;go_wp2_with fail
     clear u4;by_cases h0:e3=0
     ·obtain ⟨h8,hall⟩:=HZ.out h0
      have Co:=ae (wN x.aI hall);have t1:(e3==0)=true:=by simpa using h0
      have t2:(e3 !=0)=false:=by simpa using h0
      have H0:=ae h0;clear h0 hall hi;go_loopw [10,11] (fun vs ii wl=> ∃j:Nat,j≤x.aI.length∧FE wl K e3∧ak K V wl∧aG wl B 67 x.cells∧vs= .int .i64 (bS (x.aI.take j))∧ii= .int .i64 j) (fun _ ii _=>x.aI.length-(intOf ii).toNat)
      case atStart=>exact ⟨0,Nat.zero_le _,sV.out,eK.out,bt.out,rfl,rfl⟩
      case round=>
       obtain ⟨j,hj,hF,hX,hA,rfl,rfl⟩:=hrel;clear sV eK bt;have u4:wr.cell? ⟨B,4,none⟩=some (.slice x.sa x.aI.length x.sc):=(hA.cell 4).trans rfl;have k3:=hF.cell;by_cases hlt:j<x.aI.length
       ·have hE:=hX.ext HV.out bB.out
        obtain ⟨b,o,ha,q0,-⟩:=(HS.out.ext hE).aI j hlt;have HT:=ae (mC x.aI j hlt);have hb1:=Co.out j (by omega);have hb2:=Co.out (j+1) (by omega)
        rw [HT.out]at hb2;generalize bS (x.aI.take j)=σ at*;generalize x.aI[j].width=y at*;have j3:=ae ha;have hws:IntKind.i64.wrap (σ+y)=σ+y:=by rw [IntKind.wrap_i64];omega
        have fM:(0:Int)≤(j:Int):=by omega
        have fH:(j:Int)<(x.aI.length:Int):=by omega
        have HF:=ae hF;have HX:=ae hX;have HA:=ae hA;have AO:=ae hb1;have qf:=ae hb2
        clear hF hX hA hE ha hb1 hb2;rw [j3.out]at u4;go_wp2_with fail
        exact ⟨⟨j+1,by omega,HF.out,HX.out,HA.out,by rw [HT.out],by go_num⟩,by simp only [intOf];omega⟩
       ·obtain rfl:j=x.aI.length:=by omega
        have u2:wr.cell? ⟨B,2,none⟩=some (i64 x.min):=(hA.cell 2).trans rfl;have u3:wr.cell? ⟨B,3,none⟩=some (i64 x.max):=(hA.cell 3).trans rfl;have vC:=ae (aU wr K e3 (bS x.aI==M) 3 ix 4 4 hF);have HX:=ae hX;have HQ:Hid ((bS x.aI==M)=decide (bS x.aI=M)):=by show _=_;rw [Bool.eq_iff_iff];simp
        rw [List.take_length];clear hF hX hA;go_wp2_with fail
        refine vC.out.mono ?_;rintro e6 W6 ⟨rfl,Jf,eT⟩;go_wp2_with fail
        exact bodyPost_end (v:= .tuple #[]) (by simp [results,Tryz.results101,go_sem]) rfl ⟨rfl,by rw [←HQ.out];exact Jf,HX.out.trans eT⟩
     ·have t1:(e3==0)=false:=by simpa using h0
      have t2:(e3 !=0)=true:=by simpa using h0
      have tq:=ae (dX h0 (decide (bS x.aI=M)) 4);clear h0 hi;go_loopw [10,11] (fun vs ii wl=>FE wl K e3∧ak K V wl∧aG wl B 67 x.cells∧vs= .int .i64 0∧ii= .int .i64 0) (fun _ _ _=>0)
      case atStart=>exact ⟨sV.out,eK.out,bt.out,rfl,rfl⟩
      case round=>
       obtain ⟨hF,hX,hA,rfl,rfl⟩:=hrel;clear sV eK bt;have u4:wr.cell? ⟨B,4,none⟩=some (.slice x.sa x.aI.length x.sc):=(hA.cell 4).trans rfl;have u2:wr.cell? ⟨B,2,none⟩=some (i64 x.min):=(hA.cell 2).trans rfl;have u3:wr.cell? ⟨B,3,none⟩=some (i64 x.max):=(hA.cell 3).trans rfl;have k3:=hF.cell;have vC:=ae (aU wr K e3 true 3 ix 4 4 hF);rw [bk]at vC;have HX:=ae hX;clear hF hX hA;by_cases hl:0<x.aI.length
       ·have tl:decide ((0:Int)<(x.aI.length:Int))=true:=by simpa using hl
        go_wp2_with fail
        refine vC.out.mono ?_;rintro e6 W6 ⟨rfl,Jf,eT⟩;go_wp2_with fail
        exact bodyPost_end (v:= .tuple #[]) (by simp [results,Tryz.results101,go_sem]) rfl ⟨rfl,by rw [tq.out];exact Jf,HX.out.trans eT⟩
       ·have tl:decide ((0:Int)<(x.aI.length:Int))=false:=by simpa using hl
        go_wp2_with fail
        refine vC.out.mono ?_;rintro e6 W6 ⟨rfl,Jf,eT⟩;go_wp2_with fail
        exact bodyPost_end (v:= .tuple #[]) (by simp [results,Tryz.results101,go_sem]) rfl ⟨rfl,by rw [tq.out];exact Jf,HX.out.trans eT⟩
section
variable{P:Program}
theorem eL (w:World) (p:Addr) (ty:TypeId) (cs:List Value) (d:TypeDesc) (hc: ∀j v,cs[j]?=some v→w.cell? (p.add j)=some v)
 (hu:P.underlying ty=some d) (hd:(match d with| .struct _| .array _ _=>true|_=>false)=true) (hi:(P.info? ty).map (·.size)=some cs.length):
 (loadVar ty p).run P w= .ok (.agg cs.toArray) w:=by
 have hl:(loadCells p cs.length).run P w= .ok cs.toArray w:=run_loadCells_list (P:=P) w p cs hc;cases hq:P.info? ty with
 |none=>simp [hq]at hi
 |some i=>
  have hs:i.size=cs.length:=by simpa [hq]using hi
  have hagg:(isAgg ty).run P w= .ok true w:=by
   unfold isAgg;rw [Sem.run_bind,run_underlying hu w];cases d<;>simp_all
  simp [loadVar,Sem.run_bind,hagg,sizeOf,typeInfo,hq,hs,hl]
theorem aQ {ops:Array Oper} {rest:List Oper} {o:Oper} {a:Act} {w:World} {Q:Exit→Act→World→Prop} (hgd:o.guard=none) (ty:TypeId) (x:Operand) (ho:o.op= .load ty x)
 (p:Addr) (hx:a.eval x= .pointer (some p)) (cs:List Value) (d:TypeDesc) (hc: ∀j v,cs[j]?=some v→w.cell? (p.add j)=some v)
 (hu:P.underlying ty=some d) (hd:(match d with| .struct _| .array _ _=>true|_=>false)=true) (hi:(P.info? ty).map (·.size)=some cs.length)
 (h:wpList P ops Q rest (a.put o.dst (.agg cs.toArray)) w):wpList P ops Q (o::rest) a w:=
 wpList_plain hgd fun K hK=>by
  unfold Oper.wp execOp;simp only [ho,hx,Instr.loadAt,Instr.sureAddr,Sem.run_bind,Sem.run_pure,Result.andThen_ok,eL w p ty cs d hc hu hd hi];exact hK _ _ h
theorem bD {ops:Array Oper} {rest:List Oper} {o:Oper} {a:Act} {w:World} {Q:Exit→Act→World→Prop} (hgd:o.guard=none) (ty:TypeId) (x y:Operand) (ho:o.op= .store ty x y)
 (cs cs':List Value) (hx:a.eval x= .pointer (some ⟨w.heap.size,0,none⟩)) (hy:a.eval y= .agg cs'.toArray) (hi:(P.info? ty).map (·.size)=some cs'.length) (hold:cs.length=cs'.length) (h1:cs'.all (·.oneCell')=true)
 (h:wpList P ops Q rest (a.put o.dst undef) (w.alloc (.cells cs'.toArray ty))):wpList P ops Q (o::rest) a (w.alloc (.cells cs.toArray ty)):=
 wpList_plain hgd fun K hK=>by
  have hr:=run_storeAt_new (P:=P) w ty cs.toArray cs'.toArray (by simpa using hi) (by simpa using hold) (by simpa using h1);unfold Oper.wp execOp;simp only [ho,hx,hy,Sem.run_bind,hr,Result.andThen_ok,Sem.run_pure];exact hK _ _ h
end
theorem aG.adds {w:World} {b:Nat} {T:TypeId} {vs:List Value} (h:aG w b T vs): ∀j v,vs[j]?=some v→w.cell? (Addr.add ⟨b,0,none⟩ j)=some v:=fun j v hv=>by
 have e:(Addr.add ⟨b,0,none⟩ j)=⟨b,j,none⟩:=by unfold Addr.add;split<;>simp_all
 rw [e,h.cell j];exact hv
theorem bP.adds {w:World} {m:Nat} {a:Option Addr} {c:Nat} {rows:List (List Value)} (h:bP w m a c rows) (i:Nat) (hi:i<rows.length): ∃b o,a=some ⟨b,o,none⟩∧ ∀j v,(rows[i])[j]?=some v→w.cell? (Addr.add ⟨b,o+i*m,none⟩ j)=some v:=by
 obtain ⟨b,o,ha,hc⟩:=h.cell i hi;refine ⟨b,o,ha,fun j v hv=> ?_⟩;obtain ⟨hj,rfl⟩:=List.getElem?_eq_some_iff.1 hv;have e:(Addr.add ⟨b,o+i*m,none⟩ j)=⟨b,o+i*m+j,none⟩:=by unfold Addr.add;split<;>simp_all
 rw [e];exact hc j hj
end Go.Proofs.YtkpngkdgphojlaaGreat
