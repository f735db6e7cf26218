/- Texts of the proof. -/
import Derived.Test.YtkpngkdgphojlaaGreatCf29
set_option linter.all false
set_option maxHeartbeats 40000000
set_option maxRecDepth 100000
namespace Go.Proofs.YtkpngkdgphojlaaGreat
open Go.Proofs.Tryz
open Go.RowKit
theorem JK (V:World) (T:Nat) (R:Nat) (X:Nat) (a:Option Addr) (c:Nat) (l:List Int) (hh:Nat) (nb:Nat) (rc:Nat) (bc:Nat) (rb:Option Addr) (ba:Option Addr) (rs:List Int) (bs:List cN) (ls:List aS) (la:Option Addr) (lc:Nat) (us:List aK) (ua:Option Addr) (uc:Nat) (ss:List bG) (sa:Option Addr) (sc:Nat) (ts:List dX) (ta:Option Addr) (tc:Nat) (HL:Hid (aI V a c l)) (pD:Hid (V.heap.size≤T∧V.heap.size≤R)) (HH:Hid (1≤hh∧hh≤3)) (DZ:Hid (rs.length=hh∧ ∀z∈rs,0≤z∧z<5)) (jD:Hid (1≤nb∧nb≤4)) (BZ:Hid (∀j (h:j<bs.length),kH bs[j] j hh)) (iG:Hid (bs.length=nb)) (uN:Hid (gK ls nb hh)) (nS:Hid (ls.length≤7)) (JL:Hid (jX us nb hh)) (Bf:Hid (1≤us.length∧us.length≤3)) (kg:Hid (ss.length≤1∧ ∀s∈ss,nA s nb)) (S':Hid (ts.length≤1∧ ∀t∈ts,Fh t nb hh)) (WV:World) (HC:Hid (CW V T R X a c l [i64 (hh:Int),.slice rb hh rc,.slice ba nb bc,.slice la ls.length lc,.slice ua us.length uc,.slice sa ss.length sc,.slice ta ts.length tc,.slice none 0 0] (⟨hh,rb,rc,rs,ba,bc,bs,la,lc,ls,ua,uc,us,sa,sc,ss,ta,tc,ts,none,0,[]⟩:ai) WV)) {u0 u1 u5 u6 u8 u9 u10 u11 u12 u13 u14 u15 u16 u17 u18 u19 u20 u21 u22 u23 u24 u25 u26 u27 u28 u29 u30 u31 u32 u33 u34 u35 u36 u37 u38 u39 u40 u41 u42 u43 u44 u45 u46 u47 u48 u49 u50 u51 u52 u53 u54 u55 u56 u57 u58 u59 u60 u61 u62 u63 u64 u65 u66 u67 u68 u69 u70 u71 u72 u73 u74 u75 u76 u77 u78 u79 u80 u81 u82 u83 u84 u85 u86 u87 u88 u89 u90 u91 u92 u93 u94 u95 u96 u97 u98 u99 u100 u101 u102 u103 u104 u105 u106 u107 u108 u109 u110 u111 u112 u113 u114 u115 u116 u117 u118 u119 u120 u121 u122 u123 u124 u125 u126 u127 u128 u129 u130 u131 u132 u133 u134 u135 u136 u137 u138 u139 u140 u141 u142 u143 u144 u145 u146 u147 u148 u149 u150 u151 u152 u153 u154 u155 u156 u157 u158 u159 u160 u161 u162 u163 u164 u165 u166 u167 u168 u169 u170 u171 u172 u173 u174 u175 u176 u177 u178 u179 u180 u181 u182 u183 u184 u185 u186 u187 u188 u189 u190 u191 u192 u193 u194 u195 u196 u197 u198 u199 u200 u201 u202 u203 u204 u205 u206 u207 u208 u209 u210 u211 u212 u213 u214 u215 u216 u217 u218 u219 u220 u221 u222 u223 u224 u225 u226 u227 u228 u229 u230 u231 u232 u233 u234 u235 u236:Value}:Code.wp prog (fh 11 Tryz.caseCode) (bodyPost prog Tryz.f10 fun e w'=> ∃(hh nb:Nat) (x:ai),e= .returned (.agg x.cells.toArray)∧a_ w' x∧fT hh nb x∧dW x=0∧(bZ (fun b=>V.heap.size≤b) x∧eh w' x∧bZ (fun b=>b<w'.heap.size) x)∧Ext V w') {tmps:= #[u0,u1,.pointer (some ⟨R,0,none⟩),.pointer (some ⟨T,0,none⟩),.pointer (some ⟨X,0,none⟩),u5,u6,.int .i64 (nb:Int),u8,u9,u10,u11,u12,u13,u14,u15,u16,u17,u18,u19,u20,u21,u22,u23,u24,u25,u26,u27,u28,u29,u30,u31,u32,u33,u34,u35,u36,u37,u38,u39,u40,u41,u42,u43,u44,u45,u46,u47,u48,u49,u50,u51,u52,u53,u54,u55,u56,u57,u58,u59,u60,u61,u62,u63,u64,u65,u66,u67,u68,u69,u70,u71,u72,u73,u74,u75,u76,u77,u78,u79,u80,u81,u82,u83,u84,u85,u86,u87,u88,u89,u90,u91,u92,u93,u94,u95,u96,u97,u98,u99,u100,u101,u102,u103,u104,u105,u106,u107,u108,u109,u110,u111,u112,u113,u114,u115,u116,u117,u118,u119,u120,u121,u122,u123,u124,u125,u126,u127,u128,u129,u130,u131,u132,u133,u134,u135,u136,u137,u138,u139,u140,u141,u142,u143,u144,u145,u146,u147,u148,u149,u150,u151,u152,u153,u154,u155,u156,u157,u158,u159,u160,u161,u162,u163,u164,u165,u166,u167,u168,u169,u170,u171,u172,u173,u174,u175,u176,u177,u178,u179,u180,u181,u182,u183,u184,u185,u186,u187,u188,u189,u190,u191,u192,u193,u194,u195,u196,u197,u198,u199,u200,u201,u202,u203,u204,u205,u206,u207,u208,u209,u210,u211,u212,u213,u214,u215,u216,u217,u218,u219,u220,u221,u222,u223,u224,u225,u226,u227,u228,u229,u230,u231,u232,u233,u234,u235,u236],defers:= []} WV:=by
 have gD:=ae (fI.of V V T a c l pD.o.1 (Ext.refl V) HL.o);have Fw:=ae (fun U (hx:Ext V U) (hU:bJ U T a c l) (m:Int) (hm:0<m) (nc:m<1000000)=>kY V U T a c l hh m pD.o.1 hx HL.o hU (by have:=HH.o;omega) hm nc);conv=>arg 2;dsimp only [Tryz.caseCode,Tryz.f10,fh,Option.getD]
 have HOU:=ae (fun U (hx:Ext V U) (hU:bJ U T a c l) (i:Nat) (hi:i<16) (Qp:0<ls.length)=>Gt V U T a c l i ls.length us.length pD.o.1 hx HL.o hU hi Qp (by have:=nS.o;omega) (by have:=Bf.o;omega));go_wp2_with fail
 refine (gD.o WV 4 (HC.o.ext.but T) HC.o.tape (by decide) (by decide)).mono ?_;rintro e WW ⟨kv,rfl,JM,hT,hx⟩;replace HC:=ae (HC.o.next hT hx);clear hT hx;obtain ⟨n3,hn3⟩: ∃n3:Nat,kv=(n3:Int):=⟨kv.toNat,by omega⟩;subst hn3;have HN3:Hid (n3≤3):=by(show _≤_;omega)
 clear JM
 go_upto_block 8 with fail
 go_cut [] (fun wx=> ∃(os:List aY) (oa:Option Addr) (oc:Nat),os.length≤3∧qf os ls.length us.length∧(os= []∨dW (⟨hh,rb,rc,rs,ba,bc,bs,la,lc,ls,ua,uc,us,sa,sc,ss,ta,tc,ts,oa,oc,os⟩:ai)=0)∧CW V T R X a c l [i64 (hh:Int),.slice rb hh rc,.slice ba nb bc,.slice la ls.length lc,.slice ua us.length uc,.slice sa ss.length sc,.slice ta ts.length tc,.slice oa os.length oc] (⟨hh,rb,rc,rs,ba,bc,bs,la,lc,ls,ua,uc,us,sa,sc,ss,ta,tc,ts,oa,oc,os⟩:ai) wx)
 case first=>
  as_aux_lemma=>
   go_wp2_with fail
   go_loopw [13] (fun v wr=> ∃(k:Nat) (os:List aY) (oa:Option Addr) (oc:Nat),k+os.length≤3∧qf os ls.length us.length∧(os= []→oa=none∧oc=0)∧(os= []∨dW (⟨hh,rb,rc,rs,ba,bc,bs,la,lc,ls,ua,uc,us,sa,sc,ss,ta,tc,ts,oa,oc,os⟩:ai)=0)∧CW V T R X a c l [i64 (hh:Int),.slice rb hh rc,.slice ba nb bc,.slice la ls.length lc,.slice ua us.length uc,.slice sa ss.length sc,.slice ta ts.length tc,.slice oa os.length oc] (⟨hh,rb,rc,rs,ba,bc,bs,la,lc,ls,ua,uc,us,sa,sc,ss,ta,tc,ts,oa,oc,os⟩:ai) wr∧v= .int .i64 (k:Int)) (fun v _=>(intOf v).toNat)
   case atStart=>exact ⟨n3,[],none,0,HN3.o,fun j h=>absurd h (by simp),fun _=>⟨rfl,rfl⟩,Or.inl rfl,HC.o,rfl⟩
   case round=>
    obtain ⟨k,os,oa,oc,hk,Ta,hnil,pY,hC,rfl⟩:=hrel;clear HC;have HC:=ae hC;have L0:=ae Ta;have I1:=ae hnil;have LW:=ae pY;have HK:=ae hk
    clear hC Ta hnil pY hk;by_cases YD:0<k
    ·have b0:(0:Int)<(k:Int):=by omega
     have c3:wr.cell? ⟨X,3,none⟩=some (.slice la ls.length lc):=(HC.o.b_.cell 3).trans rfl;have c4:wr.cell? ⟨X,4,none⟩=some (.slice ua us.length uc):=(HC.o.b_.cell 4).trans rfl;have c7:wr.cell? ⟨X,7,none⟩=some (.slice oa os.length oc):=(HC.o.b_.cell 7).trans rfl;have LF:=ae YD;by_cases hlt:0<ls.length
     ·have b1:(0:Int)<(ls.length:Int):=by omega
      have Fq:Hid (os.length<3):=by(have:=HK.o;show _<_;omega)
      have Gi:=ae hlt;go_wp2_with fail
      refine (HOU.o wr HC.o.ext HC.o.tape os.length (by have:=Fq.o;omega) Gi.o).mono ?_;rintro e W1 ⟨x,rfl,hm,hi,hf,hr,hf2,hb2,hT,hx⟩;have hXw:=HC.o.b_.lt;have O6:=HC.o.bl.outer;have hb1:=int_lt hi (by rcases hm.lines with q|q<;>omega);replace HC:=ae (HC.o.next hT hx);have HM:=ae hm;have eE:Hid (aI W1 x.la x.lc x.lines∧bH W1 3 x.ma x.mc (x.moves.map bL.cells)∧(∀p,x.la=some p→X<p.block∧p.block<W1.heap.size∧bA (⟨hh,rb,rc,rs,ba,bc,bs,la,lc,ls,ua,uc,us,sa,sc,ss,ta,tc,ts,oa,oc,os⟩:ai) p.block)∧(∀p,x.ma=some p→X<p.block∧p.block<W1.heap.size∧bA (⟨hh,rb,rc,rs,ba,bc,bs,la,lc,ls,ua,uc,us,sa,sc,ss,ta,tc,ts,oa,oc,os⟩:ai) p.block)):=⟨hi,hr,fun p hp=>⟨by have:=hf p hp;omega,hb1 p hp,fun q hq=>by have:=O6 q hq;have:=hf p hp;omega⟩,fun p hp=>⟨by have:=hf2 p hp;omega,hb2 p hp,fun q hq=>by have:=O6 q hq;have:=hf2 p hp;omega⟩⟩;clear hm hi hf hr hf2 hb2 hT hx hXw hb1 O6 c3 c4 c7;go_upto_region 35 with(refine dR rfl 87 _ _ rfl kx.cells x.cells rfl rfl (by kernel_rfl) rfl rfl ?_)
      obtain ⟨W2,hW2,x2,-,A2⟩:=aX W1 87 x.cells;rw [show W1.alloc (.cells x.cells.toArray 87)=W2 from hW2.symm];obtain ⟨BX,Oj⟩: ∃BX,BX=W1.heap.size:=⟨_,rfl⟩;have hs2:W2.heap.size=BX+1:=by rw [hW2,Oj];simp
      rw [←Oj]at A2;replace HC:=ae (HC.o.grow x2);have ez:Hid (aI W2 x.la x.lc x.lines∧bH W2 3 x.ma x.mc (x.moves.map bL.cells)∧(∀p,x.la=some p→X<p.block∧p.block<BX∧bA (⟨hh,rb,rc,rs,ba,bc,bs,la,lc,ls,ua,uc,us,sa,sc,ss,ta,tc,ts,oa,oc,os⟩:ai) p.block)∧(∀p,x.ma=some p→X<p.block∧p.block<BX∧bA (⟨hh,rb,rc,rs,ba,bc,bs,la,lc,ls,ua,uc,us,sa,sc,ss,ta,tc,ts,oa,oc,os⟩:ai) p.block)):=⟨eE.o.1.ext x2,eE.o.2.1.ext x2,by rw [Oj];exact eE.o.2.2⟩;have sI:=ae A2;have Aw:=ae hs2;try rw [←Oj]
      clear eE hW2 x2 A2 hs2 Oj;have mH: ∀j v,([i64 (hh:Int),.slice rb hh rc,.slice ba nb bc,.slice la ls.length lc,.slice ua us.length uc,.slice sa ss.length sc,.slice ta ts.length tc,.slice oa os.length oc])[j]?=some v→W2.cell? ((⟨X,0,none⟩:Addr).add j)=some v:=fun j v hj=>by rw [cF,HC.o.b_.cell j];exact hj
      go_upto_region 36 with(first|(refine aT rfl 32 _ rfl ⟨X,0,none⟩ rfl [i64 (hh:Int),.slice rb hh rc,.slice ba nb bc,.slice la ls.length lc,.slice ua us.length uc,.slice sa ss.length sc,.slice ta ts.length tc,.slice oa os.length oc] _ mH rfl rfl (by kernel_rfl) ?_)|(refine dR rfl 32 _ _ rfl lS.cells [i64 (hh:Int),.slice rb hh rc,.slice ba nb bc,.slice la ls.length lc,.slice ua us.length uc,.slice sa ss.length sc,.slice ta ts.length tc,.slice oa os.length oc] rfl rfl (by kernel_rfl) rfl rfl ?_))
      obtain ⟨W3,hW3,x3,-,A3⟩:=aX W2 32 [i64 (hh:Int),.slice rb hh rc,.slice ba nb bc,.slice la ls.length lc,.slice ua us.length uc,.slice sa ss.length sc,.slice ta ts.length tc,.slice oa os.length oc];rw [show W2.alloc (.cells #[i64 (hh:Int),.slice rb hh rc,.slice ba nb bc,.slice la ls.length lc,.slice ua us.length uc,.slice sa ss.length sc,.slice ta ts.length tc,.slice oa os.length oc] 32)=W3 from hW3.symm];obtain ⟨KD,O7⟩: ∃KD,KD=W2.heap.size:=⟨_,rfl⟩;obtain ⟨G,hG⟩: ∃G,G=W3.heap.size:=⟨_,rfl⟩;have hs3:G=KD+1:=by rw [hG,hW3,O7];simp
      have hs2:=Aw.o;rw [←O7]at A3;try rw [←O7]
      have DX:=ae A3;have JN:Hid (bZ (fun b=>b≠KD) (⟨hh,rb,rc,rs,ba,bc,bs,la,lc,ls,ua,uc,us,sa,sc,ss,ta,tc,ts,oa,oc,os⟩:ai)):=HC.o.bl.mono fun b hb=>by omega
      have HOLD:Hid (bZ (fun b=>b<G) (⟨hh,rb,rc,rs,ba,bc,bs,la,lc,ls,ua,uc,us,sa,sc,ss,ta,tc,ts,oa,oc,os⟩:ai)):=HC.o.bl.mono fun b hb=>by omega
      have EO:=HC.o.b_.lt;have YE:Hid (X<G):=by(show _<_;omega)
      have QC:Hid (X<KD∧KD<G):=by(show _∧_;omega)
      have Tb:Hid (G=W3.heap.size):=hG;have LJ:Hid (W3.heap.size≤G):=Nat.le_of_eq hG.symm;have uB:Hid (aI W3 x.la x.lc x.lines∧bH W3 3 x.ma x.mc (x.moves.map bL.cells)∧(∀p,x.la=some p→X<p.block∧p.block<G∧bA (⟨hh,rb,rc,rs,ba,bc,bs,la,lc,ls,ua,uc,us,sa,sc,ss,ta,tc,ts,oa,oc,os⟩:ai) p.block)∧(∀p,x.ma=some p→X<p.block∧p.block<G∧bA (⟨hh,rb,rc,rs,ba,bc,bs,la,lc,ls,ua,uc,us,sa,sc,ss,ta,tc,ts,oa,oc,os⟩:ai) p.block)):=⟨ez.o.1.ext x3,ez.o.2.1.ext x3,fun p hp=>by have h7:=ez.o.2.2.1 p hp;exact ⟨h7.1,by omega,h7.2.2⟩,fun p hp=>by have h7:=ez.o.2.2.2 p hp;exact ⟨h7.1,by omega,h7.2.2⟩⟩
      have Fx:Hid (∀y∈os++ [x],bT (fun b=>b≠KD) y.la∧bT (fun b=>b≠KD) y.ma):=fun y hy=>by
       rcases List.mem_append.1 hy with q|q
       ·exact JN.o.o y q
       ·rw [List.mem_singleton]at q;subst q
        exact ⟨fun p hp=>by have:=ez.o.2.2.1 p hp;omega,fun p hp=>by have:=ez.o.2.2.2 p hp;omega⟩
      have L1:Hid (∀y∈os++ [x],y.name.size≤maxLen∧ ∀m∈y.moves,eI [m.unit,m.up,m.down]):=fun y hy=>by
       rcases List.mem_append.1 hy with q|q
       ·have h5:=HC.o.case'.o y q
        exact ⟨h5.1,h5.2.2.2⟩
       ·rw [List.mem_singleton]at q;subst q
        exact HM.o.ji (by have:=Fq.o;omega) (by have:=Bf.o;omega)
      have L3:Hid (oa=none→os.length=0∧oc=0):=fun e=>by
       have h5:=HC.o.case'.outs;by_cases q:os= []
       ·exact ⟨by rw [q];rfl,(I1.o q).2⟩
       ·obtain ⟨b3,o3,h6,-⟩:=h5.cell 0 (by rw [List.length_map];exact List.length_pos_iff.2 q)
        rw [e]at h6;cases h6
      have gP:Hid (W3.cell? ⟨X,7,none⟩=some (.slice oa os.length oc)∧W3.cell? ⟨BX,0,none⟩=some (.string x.name)∧W3.cell? ⟨BX,1,none⟩=some (.slice x.la x.lines.length x.lc)∧W3.cell? ⟨BX,2,none⟩=some (.bool x.bI)∧W3.cell? ⟨BX,3,none⟩=some (.slice x.ma x.moves.length x.mc)):=
       ⟨ak x3 ((HC.o.b_.cell 7).trans rfl),ak x3 ((sI.o.cell 0).trans rfl),ak x3 ((sI.o.cell 1).trans rfl),ak x3 ((sI.o.cell 2).trans rfl),ak x3 ((sI.o.cell 3).trans rfl)⟩
      replace HC:=ae (HC.o.grow x3);clear hW3 x3 A3 hs3 hs2 O7 hG EO mH ez sI Aw;simp only [Act.put];go_cut [] (fun wx=> ∃(os2:List aY) (g2:Option Addr) (k2:Nat),os2=os++ [x]∧CW V T R X a c l [i64 (hh:Int),.slice rb hh rc,.slice ba nb bc,.slice la ls.length lc,.slice ua us.length uc,.slice sa ss.length sc,.slice ta ts.length tc,.slice oa os.length oc] (⟨hh,rb,rc,rs,ba,bc,bs,la,lc,ls,ua,uc,us,sa,sc,ss,ta,tc,ts,oa,oc,os⟩:ai) wx∧a_ wx (⟨hh,rb,rc,rs,ba,bc,bs,la,lc,ls,ua,uc,us,sa,sc,ss,ta,tc,ts,g2,k2,os2⟩:ai)∧(bZ (fun b=>X<b∧b<wx.heap.size) (⟨hh,rb,rc,rs,ba,bc,bs,la,lc,ls,ua,uc,us,sa,sc,ss,ta,tc,ts,g2,k2,os2⟩:ai)∧eh wx (⟨hh,rb,rc,rs,ba,bc,bs,la,lc,ls,ua,uc,us,sa,sc,ss,ta,tc,ts,g2,k2,os2⟩:ai))∧aQ wx KD 32 [i64 (hh:Int),.slice rb hh rc,.slice ba nb bc,.slice la ls.length lc,.slice ua us.length uc,.slice sa ss.length sc,.slice ta ts.length tc,.slice g2 os2.length k2])
      case first=>
       as_aux_lemma=>
        refine aL (fun w'=>True) (fun w'=>w'.cell? ⟨X,7,none⟩=some (.slice oa os.length oc)∧w'.cell? ⟨BX,0,none⟩=some (.string x.name)∧w'.cell? ⟨BX,1,none⟩=some (.slice x.la x.lines.length x.lc)∧w'.cell? ⟨BX,2,none⟩=some (.bool x.bI)∧w'.cell? ⟨BX,3,none⟩=some (.slice x.ma x.moves.length x.mc)) (fun i=>i==8) (by kernel_rfl) (trivial) (⟨ak ((Ext.refl W3).drew) gP.o.1,ak ((Ext.refl W3).drew) gP.o.2.1,ak ((Ext.refl W3).drew) gP.o.2.2.1,ak ((Ext.refl W3).drew) gP.o.2.2.2.1,ak ((Ext.refl W3).drew) gP.o.2.2.2.2⟩) (fun ay ah=> ?_);refine aF 1 ay ah ?_;refine Hw 2 ay ah ?_;refine Hw 4 ay ah ?_ (v:= .agg #[.string x.name,.slice x.la x.lines.length x.lc,.bool x.bI,.slice x.ma x.moves.length x.mc]);have HX:=ae ((Ext.refl W3).drew);replace HC:=ae (HC.o.grow HX.o);replace uB:Hid (aI W3.drew x.la x.lc x.lines∧bH W3.drew 3 x.ma x.mc (x.moves.map bL.cells)∧(∀p,x.la=some p→X<p.block∧p.block<G∧bA (⟨hh,rb,rc,rs,ba,bc,bs,la,lc,ls,ua,uc,us,sa,sc,ss,ta,tc,ts,oa,oc,os⟩:ai) p.block)∧(∀p,x.ma=some p→X<p.block∧p.block<G∧bA (⟨hh,rb,rc,rs,ba,bc,bs,la,lc,ls,ua,uc,us,sa,sc,ss,ta,tc,ts,oa,oc,os⟩:ai) p.block)):=⟨uB.o.1.ext HX.o,uB.o.2.1.ext HX.o,uB.o.2.2⟩;have QD:Hid (G≤W3.drew.heap.size):=Nat.le_trans (Nat.le_of_eq Tb.o) HX.o.size;generalize W3.drew=Q0 at*;refine bE (rs:= [0,5]) (by kernel_rfl) (by simp) ?_;refine aH.cons rfl (fun Kc hK=> ?_) (aH.cons rfl (fun Kc hK=> ?_) aH.nil)
        ·go_simp
         obtain ⟨Q1,hW2⟩: ∃W2,W2=Q0.alloc (.cells #[] 87):=⟨_,rfl⟩;have x2:Ext Q0 Q1:=by rw [hW2];exact (Ext.refl Q0).alloc _
         obtain ⟨G0,GW⟩: ∃G0,G0=Q0.heap.size:=⟨_,rfl⟩
         have HP:Hid (iJ V T R X G a c l [i64 (hh:Int),.slice rb hh rc,.slice ba nb bc,.slice la ls.length lc,.slice ua us.length uc,.slice sa ss.length sc,.slice ta ts.length tc,.slice oa os.length oc] (⟨hh,rb,rc,rs,ba,bc,bs,la,lc,ls,ua,uc,us,sa,sc,ss,ta,tc,ts,oa,oc,os⟩:ai) 87 4 (some ⟨G0,0,none⟩) 0 ([]) (BO (os++ [x])) (BP (os++ [x])) Q1):=by
             rw [hW2,GW];exact yA HC.o QD.o HOLD.o YE.o uB.o.1 uB.o.2.1 uB.o.2.2.1 uB.o.2.2.2
         rw [←hW2,←GW];replace HX:=ae (HX.o.trans x2);clear HC uB QD GW hW2 x2;refine hK.o _ _ (trivial) (⟨ak (HX.o) gP.o.1,ak (HX.o) gP.o.2.1,ak (HX.o) gP.o.2.2.1,ak (HX.o) gP.o.2.2.2.1,ak (HX.o) gP.o.2.2.2.2⟩) (fun ay ah=> ?_);clear hK Kc;try simp only [jw,jx,jy,List.setIfInBounds_toArray,jz,jA,Act.put]
         refine bE (rs:= [3,5]) (by kernel_rfl) (by simp) ?_;refine aH.cons rfl (fun Kc hK=> ?_) (aH.cons rfl (fun Kc hK=> ?_) aH.nil)
         ·rw [if_pos (by rfl)]
          refine eH _ (.tmp 220) (.tmp 222) 30 rfl G 87 (.agg kx.cells.toArray) 4 72 underlying30 Tryz.info_outage rfl (by decide) (.slice (some ⟨G0,0,none⟩) 0 0) 0 [] rfl HP.o.own.own oa os.length oc (os.map aY.cells).flatten rfl ?c1 ?c2 ?c3 ?c4 ?c5 (by decide) HP.o.size ?_
          case c1=>rw [gC (m:=4) _ (fun r hr=>by obtain ⟨o,-,rfl⟩:=List.mem_map.1 hr;rfl),List.length_map]
          case c2=>exact HP.o.cw.case'.outs.flat (by decide) (fun r hr=>by obtain ⟨o,-,rfl⟩:=List.mem_map.1 hr;rfl)
          case c3=>
                intro u hu;obtain ⟨r,hr,hu⟩:=List.mem_flatten.1 hu;obtain ⟨o,-,rfl⟩:=List.mem_map.1 hr;exact List.all_eq_true.1 (show o.cells.all (·.oneCell')=true from rfl) u hu
          case c4=>exact fun e=>L3.o e
          case c5=>have:=Fq.o;omega
          intro v1 Q2 ho he hb hz hv;replace HX:=ae (he.o W3 HX.o LJ.o);obtain ⟨ga,gc,rfl,lH⟩:=HP.o.GV (rows':=os.map aY.cells) ⟨by have h5:=ho.o;rw [Nat.zero_add,List.nil_append]at h5;rw [List.length_map];exact h5,fun r hr=>by obtain ⟨o,-,rfl⟩:=List.mem_map.1 hr;rfl⟩ he.o hb.o hz.o hv.o;rw [List.length_map];replace HP:=ae lH;clear lH ho he hb hz hv;refine hK.o _ _ (trivial) (⟨ak (HX.o) gP.o.1,ak (HX.o) gP.o.2.1,ak (HX.o) gP.o.2.2.1,ak (HX.o) gP.o.2.2.2.1,ak (HX.o) gP.o.2.2.2.2⟩) (fun ay ah=> ?_);clear hK Kc;try simp only [jw,jx,jy,List.setIfInBounds_toArray,jz,jA,Act.put]
          refine fp 5 rfl (fun Kc hK=> ?_);rw [if_pos (by rfl)];refine dL 30 (.tmp 224) rfl 87 (.agg kx.cells.toArray) 4 72 underlying30 Tryz.info_outage (by decide) (by decide) x.cells rfl rfl ?_;intro Q3 mj x2;obtain ⟨BS,Np⟩: ∃BS,BS=Q2.heap.size:=⟨_,rfl⟩;rw [←Np]at mj⊢;have HAS:=ae mj;replace HP:=ae (HP.o.grow x2);replace HX:=ae (HX.o.trans x2);clear Np mj x2;refine hK.o _ _ (trivial) (⟨ak (HX.o) gP.o.1,ak (HX.o) gP.o.2.1,ak (HX.o) gP.o.2.2.1,ak (HX.o) gP.o.2.2.2.1,ak (HX.o) gP.o.2.2.2.2⟩) (fun ay ah=> ?_);clear hK Kc;try simp only [jw,jx,jy,List.setIfInBounds_toArray,jz,jA,Act.put]
          refine fp 6 rfl (fun Kc hK=> ?_);rw [if_pos (by rfl)];refine dO _ (.tmp 223) (.tmp 225) 30 rfl G 87 (.agg kx.cells.toArray) 4 72 underlying30 Tryz.info_outage rfl (by decide) (.slice ga os.length gc) os.length (os.map aY.cells).flatten rfl ?c1 BS x.cells rfl rfl HAS.o rfl ?c5 (by decide) HP.o.size ?_
          case c1=>
                have h5:=HP.o.own.own;rw [List.length_map]at h5;exact h5
          case c5=>have:=Fq.o;omega
          intro v1 Q4 ho he hb hz hv;replace HX:=ae (he.o W3 HX.o LJ.o);have hl0:(os.map aY.cells).length=os.length:=List.length_map _;have nc:(os++ [x]).map aY.cells=os.map aY.cells++ [x.cells]:=by simp
          obtain ⟨g2,k2,rfl,lH⟩:=HP.o.GV (rows':=(os++ [x]).map aY.cells) (by rw [nc];exact HP.o.own.snoc (w':=Q4) (r:=x.cells) rfl (by rw [hl0];exact ho.o)) he.o (by rw [hl0];exact hb.o) hz.o (by rw [hl0];exact hv.o);rw [List.length_map];obtain ⟨os2,rv⟩: ∃os2,os2=os++ [x]:=⟨_,rfl⟩;rw [←rv]at lH⊢;have o6:=ae rv;clear HP;have HP:=ae lH;clear lH ho he hb hz hv hl0 nc rv;refine hK.o _ _ (trivial) (⟨ak (HX.o) gP.o.1,ak (HX.o) gP.o.2.1,ak (HX.o) gP.o.2.2.1,ak (HX.o) gP.o.2.2.2.1,ak (HX.o) gP.o.2.2.2.2⟩) (fun ay ah=> ?_);clear hK Kc;try simp only [jw,jx,jy,List.setIfInBounds_toArray,jz,jA,Act.put]
          refine aF 7 ay ah ?_;refine bE (rs:= [8]) (by kernel_rfl) (by simp) ?_;refine aH.late rfl (by kernel_rfl) (fun Kc hK=> ?_) aH.nil;have Tc:Q4.cell? ⟨KD,7,none⟩=some (.slice oa os.length oc):=((DX.o.ext HX.o).cell 7).trans rfl;have Td:=(DX.o.ext HX.o).frozen 7;have Te:aQ (Q4.setCell ⟨KD,7,none⟩ (.slice g2 os2.length k2)) KD 32 [i64 (hh:Int),.slice rb hh rc,.slice ba nb bc,.slice la ls.length lc,.slice ua us.length uc,.slice sa ss.length sc,.slice ta ts.length tc,.slice g2 os2.length k2]:=(DX.o.ext HX.o).set 7 _;have hO:=vL (K:=KD) (j:=7) (v:= .slice g2 os2.length k2) HP.o (by rw [o6.o];exact L1.o) QC.o.1 QC.o.2 JN.o (by rw [o6.o];exact Fx.o);go_simp;refine hK.o _ _ (trivial) (fun ay=> ?_);clear hK Kc Tc Td;try simp only [jw,jx,jy,List.setIfInBounds_toArray,jz,jA,Act.put]
          refine aD (by kernel_rfl) ?_ _;clear ay;go_wp2_with fail
          go_meet
          exact ⟨os2,g2,k2,o6.o,hO.1,hO.2.1,hO.2.2,Te⟩
         ·rw [if_pos (by rfl)]
          refine dL 30 (.tmp 224) rfl 87 (.agg kx.cells.toArray) 4 72 underlying30 Tryz.info_outage (by decide) (by decide) x.cells rfl rfl ?_;intro Q2 mj x2;obtain ⟨BS,Np⟩: ∃BS,BS=Q1.heap.size:=⟨_,rfl⟩;rw [←Np]at mj⊢;have HAS:=ae mj;have nW:Hid (BS≠G0):=by(have:=(HP.o.km _ rfl).2;simp only at this;show _≠_;omega)
          replace HP:=ae (HP.o.grow x2);replace HX:=ae (HX.o.trans x2);clear Np mj x2;refine hK.o _ _ (trivial) (⟨ak (HX.o) gP.o.1,ak (HX.o) gP.o.2.1,ak (HX.o) gP.o.2.2.1,ak (HX.o) gP.o.2.2.2.1,ak (HX.o) gP.o.2.2.2.2⟩) (fun ay ah=> ?_);clear hK Kc;try simp only [jw,jx,jy,List.setIfInBounds_toArray,jz,jA,Act.put]
          refine fp 3 rfl (fun Kc hK=> ?_);rw [if_pos (by rfl)];refine eH _ (.tmp 220) (.tmp 222) 30 rfl G 87 (.agg kx.cells.toArray) 4 72 underlying30 Tryz.info_outage rfl (by decide) (.slice (some ⟨G0,0,none⟩) 0 0) 0 [] rfl HP.o.own.own oa os.length oc (os.map aY.cells).flatten rfl ?c1 ?c2 ?c3 ?c4 ?c5 (by decide) HP.o.size ?_
          case c1=>rw [gC (m:=4) _ (fun r hr=>by obtain ⟨o,-,rfl⟩:=List.mem_map.1 hr;rfl),List.length_map]
          case c2=>exact HP.o.cw.case'.outs.flat (by decide) (fun r hr=>by obtain ⟨o,-,rfl⟩:=List.mem_map.1 hr;rfl)
          case c3=>
                intro u hu;obtain ⟨r,hr,hu⟩:=List.mem_flatten.1 hu;obtain ⟨o,-,rfl⟩:=List.mem_map.1 hr;exact List.all_eq_true.1 (show o.cells.all (·.oneCell')=true from rfl) u hu
          case c4=>exact fun e=>L3.o e
          case c5=>have:=Fq.o;omega
          intro v1 Q3 ho he hb hz hv;replace HX:=ae (he.o W3 HX.o LJ.o);obtain ⟨ga,gc,rfl,lH⟩:=HP.o.GV (rows':=os.map aY.cells) ⟨by have h5:=ho.o;rw [Nat.zero_add,List.nil_append]at h5;rw [List.length_map];exact h5,fun r hr=>by obtain ⟨o,-,rfl⟩:=List.mem_map.1 hr;rfl⟩ he.o hb.o hz.o hv.o;rw [List.length_map];replace HAS:Hid (aQ Q3 BS 87 x.cells):=(hb.o BS HAS.o.lt (by have:=nW.o;intro e;cases e;exact this rfl)).trans HAS.o;replace HP:=ae lH;clear lH ho he hb hz hv;refine hK.o _ _ (trivial) (⟨ak (HX.o) gP.o.1,ak (HX.o) gP.o.2.1,ak (HX.o) gP.o.2.2.1,ak (HX.o) gP.o.2.2.2.1,ak (HX.o) gP.o.2.2.2.2⟩) (fun ay ah=> ?_);clear hK Kc;try simp only [jw,jx,jy,List.setIfInBounds_toArray,jz,jA,Act.put]
          refine fp 6 rfl (fun Kc hK=> ?_);rw [if_pos (by rfl)];refine dO _ (.tmp 223) (.tmp 225) 30 rfl G 87 (.agg kx.cells.toArray) 4 72 underlying30 Tryz.info_outage rfl (by decide) (.slice ga os.length gc) os.length (os.map aY.cells).flatten rfl ?c1 BS x.cells rfl rfl HAS.o rfl ?c5 (by decide) HP.o.size ?_
          case c1=>
                have h5:=HP.o.own.own;rw [List.length_map]at h5;exact h5
          case c5=>have:=Fq.o;omega
          intro v1 Q4 ho he hb hz hv;replace HX:=ae (he.o W3 HX.o LJ.o);have hl0:(os.map aY.cells).length=os.length:=List.length_map _;have nc:(os++ [x]).map aY.cells=os.map aY.cells++ [x.cells]:=by simp
          obtain ⟨g2,k2,rfl,lH⟩:=HP.o.GV (rows':=(os++ [x]).map aY.cells) (by rw [nc];exact HP.o.own.snoc (w':=Q4) (r:=x.cells) rfl (by rw [hl0];exact ho.o)) he.o (by rw [hl0];exact hb.o) hz.o (by rw [hl0];exact hv.o);rw [List.length_map];obtain ⟨os2,rv⟩: ∃os2,os2=os++ [x]:=⟨_,rfl⟩;rw [←rv]at lH⊢;have o6:=ae rv;clear HP;have HP:=ae lH;clear lH ho he hb hz hv hl0 nc rv;refine hK.o _ _ (trivial) (⟨ak (HX.o) gP.o.1,ak (HX.o) gP.o.2.1,ak (HX.o) gP.o.2.2.1,ak (HX.o) gP.o.2.2.2.1,ak (HX.o) gP.o.2.2.2.2⟩) (fun ay ah=> ?_);clear hK Kc;try simp only [jw,jx,jy,List.setIfInBounds_toArray,jz,jA,Act.put]
          refine aF 7 ay ah ?_;refine bE (rs:= [8]) (by kernel_rfl) (by simp) ?_;refine aH.late rfl (by kernel_rfl) (fun Kc hK=> ?_) aH.nil;have Tc:Q4.cell? ⟨KD,7,none⟩=some (.slice oa os.length oc):=((DX.o.ext HX.o).cell 7).trans rfl;have Td:=(DX.o.ext HX.o).frozen 7;have Te:aQ (Q4.setCell ⟨KD,7,none⟩ (.slice g2 os2.length k2)) KD 32 [i64 (hh:Int),.slice rb hh rc,.slice ba nb bc,.slice la ls.length lc,.slice ua us.length uc,.slice sa ss.length sc,.slice ta ts.length tc,.slice g2 os2.length k2]:=(DX.o.ext HX.o).set 7 _;have hO:=vL (K:=KD) (j:=7) (v:= .slice g2 os2.length k2) HP.o (by rw [o6.o];exact L1.o) QC.o.1 QC.o.2 JN.o (by rw [o6.o];exact Fx.o);go_simp;refine hK.o _ _ (trivial) (fun ay=> ?_);clear hK Kc Tc Td;try simp only [jw,jx,jy,List.setIfInBounds_toArray,jz,jA,Act.put]
          refine aD (by kernel_rfl) ?_ _;clear ay;go_wp2_with fail
          go_meet
          exact ⟨os2,g2,k2,o6.o,hO.1,hO.2.1,hO.2.2,Te⟩
        ·rw [if_pos (by rfl)]
         refine dL 30 (.tmp 224) rfl 87 (.agg kx.cells.toArray) 4 72 underlying30 Tryz.info_outage (by decide) (by decide) x.cells rfl rfl ?_;intro Q1 mj x2;obtain ⟨BS,Np⟩: ∃BS,BS=Q0.heap.size:=⟨_,rfl⟩;rw [←Np]at mj⊢;have HAS:=ae mj;replace HC:=ae (HC.o.grow x2);replace uB:Hid (aI Q1 x.la x.lc x.lines∧bH Q1 3 x.ma x.mc (x.moves.map bL.cells)∧(∀p,x.la=some p→X<p.block∧p.block<G∧bA (⟨hh,rb,rc,rs,ba,bc,bs,la,lc,ls,ua,uc,us,sa,sc,ss,ta,tc,ts,oa,oc,os⟩:ai) p.block)∧(∀p,x.ma=some p→X<p.block∧p.block<G∧bA (⟨hh,rb,rc,rs,ba,bc,bs,la,lc,ls,ua,uc,us,sa,sc,ss,ta,tc,ts,oa,oc,os⟩:ai) p.block)):=⟨uB.o.1.ext x2,uB.o.2.1.ext x2,uB.o.2.2⟩;replace QD:Hid (G≤Q1.heap.size):=Nat.le_trans QD.o x2.size;replace HX:=ae (HX.o.trans x2);clear Np mj x2;refine hK.o _ _ (trivial) (⟨ak (HX.o) gP.o.1,ak (HX.o) gP.o.2.1,ak (HX.o) gP.o.2.2.1,ak (HX.o) gP.o.2.2.2.1,ak (HX.o) gP.o.2.2.2.2⟩) (fun ay ah=> ?_);clear hK Kc;try simp only [jw,jx,jy,List.setIfInBounds_toArray,jz,jA,Act.put]
         refine fp 0 rfl (fun Kc hK=> ?_);go_simp;obtain ⟨Q2,hW2⟩: ∃W2,W2=Q1.alloc (.cells #[] 87):=⟨_,rfl⟩;have x2:Ext Q1 Q2:=by rw [hW2];exact (Ext.refl Q1).alloc _
         obtain ⟨G0,GW⟩: ∃G0,G0=Q1.heap.size:=⟨_,rfl⟩
         have HP:Hid (iJ V T R X G a c l [i64 (hh:Int),.slice rb hh rc,.slice ba nb bc,.slice la ls.length lc,.slice ua us.length uc,.slice sa ss.length sc,.slice ta ts.length tc,.slice oa os.length oc] (⟨hh,rb,rc,rs,ba,bc,bs,la,lc,ls,ua,uc,us,sa,sc,ss,ta,tc,ts,oa,oc,os⟩:ai) 87 4 (some ⟨G0,0,none⟩) 0 ([]) (BO (os++ [x])) (BP (os++ [x])) Q2):=by
             rw [hW2,GW];exact yA HC.o QD.o HOLD.o YE.o uB.o.1 uB.o.2.1 uB.o.2.2.1 uB.o.2.2.2
         rw [←hW2,←GW];replace HX:=ae (HX.o.trans x2);have nW:Hid (BS≠G0):=by(have:=HAS.o.lt;show _≠_;omega)
         replace HAS:=ae (HAS.o.ext x2);clear HC uB QD GW hW2 x2;refine hK.o _ _ (trivial) (⟨ak (HX.o) gP.o.1,ak (HX.o) gP.o.2.1,ak (HX.o) gP.o.2.2.1,ak (HX.o) gP.o.2.2.2.1,ak (HX.o) gP.o.2.2.2.2⟩) (fun ay ah=> ?_);clear hK Kc;try simp only [jw,jx,jy,List.setIfInBounds_toArray,jz,jA,Act.put]
         refine fp 3 rfl (fun Kc hK=> ?_);rw [if_pos (by rfl)];refine eH _ (.tmp 220) (.tmp 222) 30 rfl G 87 (.agg kx.cells.toArray) 4 72 underlying30 Tryz.info_outage rfl (by decide) (.slice (some ⟨G0,0,none⟩) 0 0) 0 [] rfl HP.o.own.own oa os.length oc (os.map aY.cells).flatten rfl ?c1 ?c2 ?c3 ?c4 ?c5 (by decide) HP.o.size ?_
         case c1=>rw [gC (m:=4) _ (fun r hr=>by obtain ⟨o,-,rfl⟩:=List.mem_map.1 hr;rfl),List.length_map]
         case c2=>exact HP.o.cw.case'.outs.flat (by decide) (fun r hr=>by obtain ⟨o,-,rfl⟩:=List.mem_map.1 hr;rfl)
         case c3=>
             intro u hu;obtain ⟨r,hr,hu⟩:=List.mem_flatten.1 hu;obtain ⟨o,-,rfl⟩:=List.mem_map.1 hr;exact List.all_eq_true.1 (show o.cells.all (·.oneCell')=true from rfl) u hu
         case c4=>exact fun e=>L3.o e
         case c5=>have:=Fq.o;omega
         intro v1 Q3 ho he hb hz hv;replace HX:=ae (he.o W3 HX.o LJ.o);obtain ⟨ga,gc,rfl,lH⟩:=HP.o.GV (rows':=os.map aY.cells) ⟨by have h5:=ho.o;rw [Nat.zero_add,List.nil_append]at h5;rw [List.length_map];exact h5,fun r hr=>by obtain ⟨o,-,rfl⟩:=List.mem_map.1 hr;rfl⟩ he.o hb.o hz.o hv.o;rw [List.length_map];replace HAS:Hid (aQ Q3 BS 87 x.cells):=(hb.o BS HAS.o.lt (by have:=nW.o;intro e;cases e;exact this rfl)).trans HAS.o;replace HP:=ae lH;clear lH ho he hb hz hv;refine hK.o _ _ (trivial) (⟨ak (HX.o) gP.o.1,ak (HX.o) gP.o.2.1,ak (HX.o) gP.o.2.2.1,ak (HX.o) gP.o.2.2.2.1,ak (HX.o) gP.o.2.2.2.2⟩) (fun ay ah=> ?_);clear hK Kc;try simp only [jw,jx,jy,List.setIfInBounds_toArray,jz,jA,Act.put]
         refine fp 6 rfl (fun Kc hK=> ?_);rw [if_pos (by rfl)];refine dO _ (.tmp 223) (.tmp 225) 30 rfl G 87 (.agg kx.cells.toArray) 4 72 underlying30 Tryz.info_outage rfl (by decide) (.slice ga os.length gc) os.length (os.map aY.cells).flatten rfl ?c1 BS x.cells rfl rfl HAS.o rfl ?c5 (by decide) HP.o.size ?_
         case c1=>
             have h5:=HP.o.own.own;rw [List.length_map]at h5;exact h5
         case c5=>have:=Fq.o;omega
         intro v1 Q4 ho he hb hz hv;replace HX:=ae (he.o W3 HX.o LJ.o);have hl0:(os.map aY.cells).length=os.length:=List.length_map _;have nc:(os++ [x]).map aY.cells=os.map aY.cells++ [x.cells]:=by simp
         obtain ⟨g2,k2,rfl,lH⟩:=HP.o.GV (rows':=(os++ [x]).map aY.cells) (by rw [nc];exact HP.o.own.snoc (w':=Q4) (r:=x.cells) rfl (by rw [hl0];exact ho.o)) he.o (by rw [hl0];exact hb.o) hz.o (by rw [hl0];exact hv.o);rw [List.length_map];obtain ⟨os2,rv⟩: ∃os2,os2=os++ [x]:=⟨_,rfl⟩;rw [←rv]at lH⊢;have o6:=ae rv;clear HP;have HP:=ae lH;clear lH ho he hb hz hv hl0 nc rv;refine hK.o _ _ (trivial) (⟨ak (HX.o) gP.o.1,ak (HX.o) gP.o.2.1,ak (HX.o) gP.o.2.2.1,ak (HX.o) gP.o.2.2.2.1,ak (HX.o) gP.o.2.2.2.2⟩) (fun ay ah=> ?_);clear hK Kc;try simp only [jw,jx,jy,List.setIfInBounds_toArray,jz,jA,Act.put]
         refine aF 7 ay ah ?_;refine bE (rs:= [8]) (by kernel_rfl) (by simp) ?_;refine aH.late rfl (by kernel_rfl) (fun Kc hK=> ?_) aH.nil;have Tc:Q4.cell? ⟨KD,7,none⟩=some (.slice oa os.length oc):=((DX.o.ext HX.o).cell 7).trans rfl;have Td:=(DX.o.ext HX.o).frozen 7;have Te:aQ (Q4.setCell ⟨KD,7,none⟩ (.slice g2 os2.length k2)) KD 32 [i64 (hh:Int),.slice rb hh rc,.slice ba nb bc,.slice la ls.length lc,.slice ua us.length uc,.slice sa ss.length sc,.slice ta ts.length tc,.slice g2 os2.length k2]:=(DX.o.ext HX.o).set 7 _;have hO:=vL (K:=KD) (j:=7) (v:= .slice g2 os2.length k2) HP.o (by rw [o6.o];exact L1.o) QC.o.1 QC.o.2 JN.o (by rw [o6.o];exact Fx.o);go_simp;refine hK.o _ _ (trivial) (fun ay=> ?_);clear hK Kc Tc Td;try simp only [jw,jx,jy,List.setIfInBounds_toArray,jz,jA,Act.put]
         refine aD (by kernel_rfl) ?_ _;clear ay;go_wp2_with fail
         go_meet
         exact ⟨os2,g2,k2,o6.o,hO.1,hO.2.1,hO.2.2,Te⟩
      case rest=>
       obtain ⟨os2,g2,k2,wN,hC,VA,hcb,hD⟩:=hcut;generalize wc=W6 at*;clear HC uB gP Fx L1 L3 LJ Tb DX JN HOLD YE;obtain ⟨cn,CP⟩: ∃cn:ai,cn=(⟨hh,rb,rc,rs,ba,bc,bs,la,lc,ls,ua,uc,us,sa,sc,ss,ta,tc,ts,g2,k2,os2⟩:ai):=⟨_,rfl⟩;have YF: [i64 (hh:Int),.slice rb hh rc,.slice ba nb bc,.slice la ls.length lc,.slice ua us.length uc,.slice sa ss.length sc,.slice ta ts.length tc,.slice g2 os2.length k2]=cn.cells:=by rw [CP];simp only [ai.cells];rw [DZ.o.1,iG.o]
       have Nn:os2.length=os.length+1:=by rw [wN,List.length_append];rfl
       have lD:Hid (oA cn):=by
        have h1:=jD.o;have h2:=nS.o;have h3:=Bf.o;have h4:=kg.o.1;have h5:=S'.o.1;have h6:=Fq.o;have h7:=iG.o
        rw [CP];refine ⟨by simp only;omega,by simp only;omega,by simp only;omega,by simp only;omega,by simp only;omega,by simp only;omega,fun o ho=> ?_⟩;replace ho:o∈os++ [x]:=by rw [←wN];exact ho
        rcases List.mem_append.1 ho with q|q
        ·obtain ⟨j,hj,rfl⟩:=List.getElem_of_mem q
         have:=(L0.o j hj).moves.len;omega
        ·rw [List.mem_singleton]at q;subst q
         have:=HM.o.moves.len;omega
       have YG:Hid (qf os2 ls.length us.length):=by rw [wN];exact L0.o.snoc HM.o
       have HC:=ae hC;have f_:Hid (a_ W6 cn):=by rw [CP];exact VA
       have QE:Hid (bZ (fun b=>X<b∧b<W6.heap.size) cn∧eh W6 cn):=by rw [CP];exact hcb
       have HD:Hid (aQ W6 KD 32 cn.cells):=by rw [←YF];exact hD
       have LB:Hid (cn=(⟨hh,rb,rc,rs,ba,bc,bs,la,lc,ls,ua,uc,us,sa,sc,ss,ta,tc,ts,g2,k2,os2⟩:ai)∧ [i64 (hh:Int),.slice rb hh rc,.slice ba nb bc,.slice la ls.length lc,.slice ua us.length uc,.slice sa ss.length sc,.slice ta ts.length tc,.slice g2 os2.length k2]=cn.cells∧os2.length=os.length+1):=⟨CP,YF,Nn⟩;clear hC VA hcb hD CP YF Nn wN;have Tf: ∀j v,([i64 cn.hours,.slice cn.ra cn.aA.length cn.rc,.slice cn.ba cn.aj.length cn.bc,.slice cn.la cn.lines.length cn.lc,.slice cn.ua cn.aq.length cn.uc,.slice cn.sa cn.stores.length cn.sc,.slice cn.ta cn.aB.length cn.tc,.slice cn.oa cn.outs.length cn.oc])[j]?=some v→W6.cell? ((⟨KD,0,none⟩:Addr).add j)=some v:=fun j v hj=>by rw [cF,HD.o.cell j];exact hj
       go_wp2_with (refine aT rfl 32 _ rfl ⟨KD,0,none⟩ rfl [i64 cn.hours,.slice cn.ra cn.aA.length cn.rc,.slice cn.ba cn.aj.length cn.bc,.slice cn.la cn.lines.length cn.lc,.slice cn.ua cn.aq.length cn.uc,.slice cn.sa cn.stores.length cn.sc,.slice cn.ta cn.aB.length cn.tc,.slice cn.oa cn.outs.length cn.oc] _ Tf rfl rfl (by kernel_rfl) ?_)
       refine (tq W6 cn f_.o lD.o).mono ?_;rintro e W7 ⟨k1,i1,f1,rfl,x7⟩;obtain ⟨ce,hce⟩: ∃ce,ce=dW cn:=⟨_,rfl⟩;rw [←hce];have OS:=ae hce;clear hce Tf;go_upto_region 38 with fail
       obtain ⟨W8,H6,x8,-,-⟩:=aX W7 52 [i64 k1,i64 i1,i64 f1];rw [show W7.alloc (.cells #[i64 k1,i64 i1,i64 f1] 52)=W8 from H6.symm];have QF:=x7.trans x8;replace HC:=ae (HC.o.grow QF);replace f_:=ae (f_.o.ext QF);replace HD:=ae (HD.o.ext QF)
       replace QE:Hid (bZ (fun b=>X<b∧b<W8.heap.size) cn∧eh W8 cn):=⟨QE.o.1.mono fun b hb=>by have:=QF.size;omega,QE.o.2.ext QF⟩;clear H6 x8 x7 QF;by_cases h0:ce=0
       ·have t1:(ce==0)=true:=by simpa using h0
        have HZ:Hid (dW cn=0):=by rw [←OS.o];exact h0
        clear h0;have Tf: ∀j v,([i64 cn.hours,.slice cn.ra cn.aA.length cn.rc,.slice cn.ba cn.aj.length cn.bc,.slice cn.la cn.lines.length cn.lc,.slice cn.ua cn.aq.length cn.uc,.slice cn.sa cn.stores.length cn.sc,.slice cn.ta cn.aB.length cn.tc,.slice cn.oa cn.outs.length cn.oc])[j]?=some v→W8.cell? ((⟨KD,0,none⟩:Addr).add j)=some v:=fun j v hj=>by rw [cF,HD.o.cell j];exact hj
        go_upto_region 33 with(first|(refine aT rfl 32 _ rfl ⟨KD,0,none⟩ rfl [i64 cn.hours,.slice cn.ra cn.aA.length cn.rc,.slice cn.ba cn.aj.length cn.bc,.slice cn.la cn.lines.length cn.lc,.slice cn.ua cn.aq.length cn.uc,.slice cn.sa cn.stores.length cn.sc,.slice cn.ta cn.aB.length cn.tc,.slice cn.oa cn.outs.length cn.oc] _ Tf rfl rfl (by kernel_rfl) ?_)|(
            refine bp rfl 32 _ _ rfl X [i64 (hh:Int),.slice rb hh rc,.slice ba nb bc,.slice la ls.length lc,.slice ua us.length uc,.slice sa ss.length sc,.slice ta ts.length tc,.slice oa os.length oc] [i64 cn.hours,.slice cn.ra cn.aA.length cn.rc,.slice cn.ba cn.aj.length cn.bc,.slice cn.la cn.lines.length cn.lc,.slice cn.ua cn.aq.length cn.uc,.slice cn.sa cn.stores.length cn.sc,.slice cn.ta cn.aB.length cn.tc,.slice cn.oa cn.outs.length cn.oc] HC.o.b_ rfl rfl (by kernel_rfl) rfl rfl ?_;intro W9 uI jC
            have HC9:Hid (CW V T R X a c l [i64 (hh:Int),.slice rb hh rc,.slice ba nb bc,.slice la ls.length lc,.slice ua us.length uc,.slice sa ss.length sc,.slice ta ts.length tc,.slice g2 os2.length k2] (⟨hh,rb,rc,rs,ba,bc,bs,la,lc,ls,ua,uc,us,sa,sc,ss,ta,tc,ts,g2,k2,os2⟩:ai) W9):=by
             rw [LB.o.2.1,←LB.o.1];exact HC.o.reset uI jC f_.o QE.o.1 QE.o.2
            clear uI jC HC f_ QE HD Tf))
        clear t1;have q3:IntKind.i64.wrap ((k:Int)-1)=((k-1:Nat):Int):=by rw [IntKind.wrap_i64];have:=HK.o;omega
        have q4:wrap64 ((k:Int)-1)=((k-1:Nat):Int):=by unfold wrap64;have:=HK.o;omega
        go_wp2_with fail
        exact ⟨⟨k-1,os2,g2,k2,by(have:=LB.o.2.2;have:=HK.o;have:=LF.o;omega),YG.o,fun e=>absurd (congrArg List.length e) (by rw [LB.o.2.2];simp),Or.inr (by rw [←LB.o.1];exact HZ.o),HC9.o,by first|rfl|exact congrArg (Value.int IntKind.i64) q4⟩,by first|exact Nat.lt_of_le_of_lt (Nat.le_of_eq (congrArg Int.toNat q4)) (by show(((k-1:Nat):Int)).toNat<((k:Int)).toNat;omega)|(show(((k-1:Nat):Int)).toNat<((k:Int)).toNat;omega)⟩
       ·have t1:(ce==0)=false:=by simpa using h0
        clear h0;go_upto_region 33 with fail
        clear t1;have q3:IntKind.i64.wrap ((k:Int)-1)=((k-1:Nat):Int):=by rw [IntKind.wrap_i64];have:=HK.o;omega
        have q4:wrap64 ((k:Int)-1)=((k-1:Nat):Int):=by unfold wrap64;have:=HK.o;omega
        go_wp2_with fail
        exact ⟨⟨k-1,os,oa,oc,by(have:=HK.o;omega),L0.o,I1.o,LW.o,HC.o,by first|rfl|exact congrArg (Value.int IntKind.i64) q4⟩,by first|exact Nat.lt_of_le_of_lt (Nat.le_of_eq (congrArg Int.toNat q4)) (by show(((k-1:Nat):Int)).toNat<((k:Int)).toNat;omega)|(show(((k-1:Nat):Int)).toNat<((k:Int)).toNat;omega)⟩
     ·have b1:decide ((0:Int)<(ls.length:Int))=false:=by rw [decide_eq_false_iff_not];omega
      have hl0:ls.length=0:=by omega
      go_wp2_with fail
      go_meet
      exact ⟨os,oa,oc,by(have:=HK.o;omega),L0.o,LW.o,HC.o⟩
    ·obtain rfl:k=0:=by omega
     go_wp2_with fail
     go_meet
     exact ⟨os,oa,oc,by(have:=HK.o;omega),L0.o,LW.o,HC.o⟩
 case rest=>
  obtain ⟨os,oa,oc,Vx,Ta,pY,hC⟩:=hcut;generalize wc=WE at*;clear HC;have HC:=ae hC;have L0:=ae (And.intro Vx (And.intro Ta pY))
  clear hC Vx Ta pY
  as_aux_lemma=>
   have HQ:Hid (∃x:ai,a_ WE x∧fT hh nb x∧dW x=0∧bZ (fun b=>X<b∧b<WE.heap.size) x∧eh WE x∧ [i64 (hh:Int),.slice rb hh rc,.slice ba nb bc,.slice la ls.length lc,.slice ua us.length uc,.slice sa ss.length sc,.slice ta ts.length tc,.slice oa os.length oc]=x.cells):=by
    have VB:fT hh nb (⟨hh,rb,rc,rs,ba,bc,bs,la,lc,ls,ua,uc,us,sa,sc,ss,ta,tc,ts,oa,oc,os⟩:ai):=⟨rfl,HH.o,DZ.o,⟨iG.o,jD.o⟩,BZ.o,nS.o,uN.o,Bf.o,JL.o,kg.o.1,kg.o.2,S'.o.1,S'.o.2,L0.o.1,L0.o.2.1⟩;refine ⟨(⟨hh,rb,rc,rs,ba,bc,bs,la,lc,ls,ua,uc,us,sa,sc,ss,ta,tc,ts,oa,oc,os⟩:ai),HC.o.case',VB,?_,HC.o.bl,HC.o.sep,?_⟩
    ·rcases L0.o.2.2 with q|q
     ·exact VB.accept q
     ·exact q
    ·simp only [ai.cells]
     rw [DZ.o.1,iG.o]
   have mH: ∀j v,([i64 (hh:Int),.slice rb hh rc,.slice ba nb bc,.slice la ls.length lc,.slice ua us.length uc,.slice sa ss.length sc,.slice ta ts.length tc,.slice oa os.length oc])[j]?=some v→WE.cell? ((⟨X,0,none⟩:Addr).add j)=some v:=fun j v hj=>by rw [cF,HC.o.b_.cell j];exact hj
   go_wp2_with (first|(refine aT rfl 32 _ rfl ⟨X,0,none⟩ rfl [i64 (hh:Int),.slice rb hh rc,.slice ba nb bc,.slice la ls.length lc,.slice ua us.length uc,.slice sa ss.length sc,.slice ta ts.length tc,.slice oa os.length oc] _ mH rfl rfl (by kernel_rfl) ?_)|(refine bp rfl 32 _ _ rfl R lS.cells [i64 (hh:Int),.slice rb hh rc,.slice ba nb bc,.slice la ls.length lc,.slice ua us.length uc,.slice sa ss.length sc,.slice ta ts.length tc,.slice oa os.length oc] HC.o.res rfl rfl (by kernel_rfl) rfl rfl ?_;intro qO kZ dI))
   obtain ⟨xf,VA,VB,hz,hbl,hsp,hce⟩:=HQ.o;have hp:=HC.o.pos;exact bodyPost_ret (v:= .agg ([i64 (hh:Int),.slice rb hh rc,.slice ba nb bc,.slice la ls.length lc,.slice ua us.length uc,.slice sa ss.length sc,.slice ta ts.length tc,.slice oa os.length oc]).toArray) (fL 2 _ rfl rfl kZ rfl rfl (by kernel_rfl)) rfl ⟨hh,nb,xf,by rw [hce],VA.but dI (hbl.mono fun b hb=>by omega),VB,hz,⟨hbl.mono (fun b hb=>by omega),hsp.but dI fun q hq=>by have:=hbl.outer q hq;omega,hbl.mono fun b hb=>Nat.lt_of_lt_of_le hb.2 dI.size⟩,dI.ext HC.o.ext hp.2.1⟩
end Go.Proofs.YtkpngkdgphojlaaGreat
