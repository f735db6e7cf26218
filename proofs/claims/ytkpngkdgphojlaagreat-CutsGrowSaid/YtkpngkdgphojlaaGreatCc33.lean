/- Texts of the proof. -/
import Derived.Test.YtkpngkdgphojlaaGreatCc28
set_option linter.all false
namespace Go.Proofs.YtkpngkdgphojlaaGreat
open Go.RowKit
set_option maxHeartbeats 40000000 in
set_option maxRecDepth 100000 in
theorem H' (V:World) (T:Nat) (R:Nat) (X:Nat) (a:Option Addr) (c:Nat) (l:List Int) (hh:Nat) (nb:Nat) (rc:Nat) (bc:Nat) (rb:Option Addr) (ba:Option Addr) (rs:List Int) (bs:List cN) (ls:List aS) (la:Option Addr) (lc:Nat) (us:List aF) (ua:Option Addr) (uc:Nat) (ss:List bp) (sa:Option Addr) (sc:Nat) (ts:List dW) (ta:Option Addr) (tc:Nat) (HL:Hid (aA V a c l)) (m_:Hid (V.heap.size≤T∧V.heap.size≤R)) (HH:Hid (1≤hh∧hh≤3)) (Ca:Hid (rs.length=hh∧ ∀z∈rs,0≤z∧z<5)) (iB:Hid (1≤nb∧nb≤4)) (zU:Hid (∀j (h:j<bs.length),js bs[j] j hh)) (kp:Hid (bs.length=nb)) (qL:Hid (fC ls nb hh)) (pX:Hid (ls.length≤7)) (Ia:Hid (iU us nb hh)) (rP:Hid (1≤us.length∧us.length≤3)) (vU:Hid (ss.length≤1∧ ∀s∈ss,lF s nb)) (R6:Hid (ts.length≤1∧ ∀t∈ts,CQ t nb hh)) (WV:World) (HC:Hid (CW V T R X a c l [i64 (hh:Int),.slice rb hh rc,.slice ba nb bc,.slice la ls.length lc,.slice ua us.length uc,.slice sa ss.length sc,.slice ta ts.length tc,.slice none 0 0] (⟨hh,rb,rc,rs,ba,bc,bs,la,lc,ls,ua,uc,us,sa,sc,ss,ta,tc,ts,none,0,[]⟩:aq) WV)) {u0 u1 u5 u6 u8 u9 u10 u11 u12 u13 u14 u15 u16 u17 u18 u19 u20 u21 u22 u23 u24 u25 u26 u27 u28 u29 u30 u31 u32 u33 u34 u35 u36 u37 u38 u39 u40 u41 u42 u43 u44 u45 u46 u47 u48 u49 u50 u51 u52 u53 u54 u55 u56 u57 u58 u59 u60 u61 u62 u63 u64 u65 u66 u67 u68 u69 u70 u71 u72 u73 u74 u75 u76 u77 u78 u79 u80 u81 u82 u83 u84 u85 u86 u87 u88 u89 u90 u91 u92 u93 u94 u95 u96 u97 u98 u99 u100 u101 u102 u103 u104 u105 u106 u107 u108 u109 u110 u111 u112 u113 u114 u115 u116 u117 u118 u119 u120 u121 u122 u123 u124 u125 u126 u127 u128 u129 u130 u131 u132 u133 u134 u135 u136 u137 u138 u139 u140 u141 u142 u143 u144 u145 u146 u147 u148 u149 u150 u151 u152 u153 u154 u155 u156 u157 u158 u159 u160 u161 u162 u163 u164 u165 u166 u167 u168 u169 u170 u171 u172 u173 u174 u175 u176 u177 u178 u179 u180 u181 u182 u183 u184 u185 u186 u187 u188 u189 u190 u191 u192 u193 u194 u195 u196 u197 u198 u199 u200 u201 u202 u203 u204 u205 u206 u207 u208 u209 u210 u211 u212 u213 u214 u215 u216 u217 u218 u219 u220 u221 u222 u223 u224 u225 u226 u227 u228 u229 u230 u231 u232 u233 u234 u235 u236:Value}:Code.wp Tryz.prog (ez 11 Tryz.caseCode) (bodyPost Tryz.prog Tryz.f10 fun e w'=> ∃(hh nb:Nat) (x:aq),e= .returned (.agg x.cells.toArray)∧aT w' x∧fD hh nb x∧bT x=0∧dv (fun b=>V.heap.size≤b) x∧Ext V w') {tmps:= #[u0,u1,.pointer (some ⟨R,0,none⟩),.pointer (some ⟨T,0,none⟩),.pointer (some ⟨X,0,none⟩),u5,u6,.int .i64 (nb:Int),u8,u9,u10,u11,u12,u13,u14,u15,u16,u17,u18,u19,u20,u21,u22,u23,u24,u25,u26,u27,u28,u29,u30,u31,u32,u33,u34,u35,u36,u37,u38,u39,u40,u41,u42,u43,u44,u45,u46,u47,u48,u49,u50,u51,u52,u53,u54,u55,u56,u57,u58,u59,u60,u61,u62,u63,u64,u65,u66,u67,u68,u69,u70,u71,u72,u73,u74,u75,u76,u77,u78,u79,u80,u81,u82,u83,u84,u85,u86,u87,u88,u89,u90,u91,u92,u93,u94,u95,u96,u97,u98,u99,u100,u101,u102,u103,u104,u105,u106,u107,u108,u109,u110,u111,u112,u113,u114,u115,u116,u117,u118,u119,u120,u121,u122,u123,u124,u125,u126,u127,u128,u129,u130,u131,u132,u133,u134,u135,u136,u137,u138,u139,u140,u141,u142,u143,u144,u145,u146,u147,u148,u149,u150,u151,u152,u153,u154,u155,u156,u157,u158,u159,u160,u161,u162,u163,u164,u165,u166,u167,u168,u169,u170,u171,u172,u173,u174,u175,u176,u177,u178,u179,u180,u181,u182,u183,u184,u185,u186,u187,u188,u189,u190,u191,u192,u193,u194,u195,u196,u197,u198,u199,u200,u201,u202,u203,u204,u205,u206,u207,u208,u209,u210,u211,u212,u213,u214,u215,u216,u217,u218,u219,u220,u221,u222,u223,u224,u225,u226,u227,u228,u229,u230,u231,u232,u233,u234,u235,u236],defers:= []} WV:=by
 have eQ:=ae (eu.of V V T a c l m_.out.1 (Ext.refl V) HL.out);have C3:=ae (fun U (hx:Ext V U) (hU:bn U T a c l) (m:Int) (hm:0<m) (rk:m<1000000)=>jO V U T a c l hh m m_.out.1 hx HL.out hU (by have:=HH.out;omega) hm rk);conv=>arg 2;dsimp only [Tryz.caseCode,Tryz.f10,ez,Option.getD]
 have HOU:=ae (fun U (hx:Ext V U) (hU:bn U T a c l) (i:Nat) (hi:i<16) (N8:0<ls.length)=>D7 V U T a c l i ls.length us.length m_.out.1 hx HL.out hU hi N8 (by have:=pX.out;omega) (by have:=rP.out;omega));go_wp2_with fail
 refine (eQ.out WV 4 (HC.out.ext.but T) HC.out.tape (by decide) (by decide)).mono ?_;rintro e WW ⟨kv,rfl,B9,hT,hx⟩;replace HC:=ae (HC.out.next hT hx);clear hT hx;obtain ⟨n3,hn3⟩: ∃n3:Nat,kv=(n3:Int):=⟨kv.toNat,by omega⟩;subst hn3;have HN3:Hid (n3≤3):=by(show _≤_;omega)
 clear B9
 go_upto_block 8 with fail
 go_cut [] (fun wx=> ∃(os:List bI) (oa:Option Addr) (oc:Nat),os.length≤3∧oA os ls.length us.length∧(os= []∨bT (⟨hh,rb,rc,rs,ba,bc,bs,la,lc,ls,ua,uc,us,sa,sc,ss,ta,tc,ts,oa,oc,os⟩:aq)=0)∧CW V T R X a c l [i64 (hh:Int),.slice rb hh rc,.slice ba nb bc,.slice la ls.length lc,.slice ua us.length uc,.slice sa ss.length sc,.slice ta ts.length tc,.slice oa os.length oc] (⟨hh,rb,rc,rs,ba,bc,bs,la,lc,ls,ua,uc,us,sa,sc,ss,ta,tc,ts,oa,oc,os⟩:aq) wx)
 case first=>
  as_aux_lemma=>
   go_wp2_with fail
   go_loopw [13] (fun v wr=> ∃(k:Nat) (os:List bI) (oa:Option Addr) (oc:Nat),k+os.length≤3∧oA os ls.length us.length∧(os= []→oa=none∧oc=0)∧(os= []∨bT (⟨hh,rb,rc,rs,ba,bc,bs,la,lc,ls,ua,uc,us,sa,sc,ss,ta,tc,ts,oa,oc,os⟩:aq)=0)∧CW V T R X a c l [i64 (hh:Int),.slice rb hh rc,.slice ba nb bc,.slice la ls.length lc,.slice ua us.length uc,.slice sa ss.length sc,.slice ta ts.length tc,.slice oa os.length oc] (⟨hh,rb,rc,rs,ba,bc,bs,la,lc,ls,ua,uc,us,sa,sc,ss,ta,tc,ts,oa,oc,os⟩:aq) wr∧v= .int .i64 (k:Int)) (fun v _=>(intOf v).toNat)
   case atStart=>exact ⟨n3,[],none,0,HN3.out,fun j h=>absurd h (by simp),fun _=>⟨rfl,rfl⟩,Or.inl rfl,HC.out,rfl⟩
   case round=>
    obtain ⟨k,os,oa,oc,hk,R7,hnil,eR,hC,rfl⟩:=hrel;clear HC;have HC:=ae hC;have Ko:=ae R7;have D8:=ae hnil;have ky:=ae eR;have HK:=ae hk
    clear hC R7 hnil eR hk;by_cases R3:0<k
    ·have b0:(0:Int)<(k:Int):=by omega
     have c3:wr.cell? ⟨X,3,none⟩=some (.slice la ls.length lc):=(HC.out.bK.cell 3).trans rfl;have c4:wr.cell? ⟨X,4,none⟩=some (.slice ua us.length uc):=(HC.out.bK.cell 4).trans rfl;have c7:wr.cell? ⟨X,7,none⟩=some (.slice oa os.length oc):=(HC.out.bK.cell 7).trans rfl;have nW:=ae R3;by_cases hlt:0<ls.length
     ·have b1:(0:Int)<(ls.length:Int):=by omega
      have Kp:Hid (os.length<3):=by(have:=HK.out;show _<_;omega)
      have mG:=ae hlt;go_wp2_with fail
      refine (HOU.out wr HC.out.ext HC.out.tape os.length (by have:=Kp.out;omega) mG.out).mono ?_;rintro e W1 ⟨x,rfl,hm,hi,hf,hr,hf2,hb2,hT,hx⟩;have hXw:=HC.out.bK.lt;have hb1:=int_lt hi (by rcases hm.lines with q|q<;>omega);replace HC:=ae (HC.out.next hT hx);have HM:=ae hm;have eK:Hid (aA W1 x.la x.lc x.lines∧bP W1 3 x.ma x.mc (x.moves.map bH.cells)∧(∀p,x.la=some p→X<p.block∧p.block<W1.heap.size)∧(∀p,x.ma=some p→X<p.block∧p.block<W1.heap.size)):=⟨hi,hr,fun p hp=>⟨by have:=hf p hp;omega,hb1 p hp⟩,fun p hp=>⟨by have:=hf2 p hp;omega,hb2 p hp⟩⟩;clear hm hi hf hr hf2 hb2 hT hx hXw hb1 c3 c4 c7;go_upto_region 35 with(refine bD rfl 87 _ _ rfl pG.cells x.cells rfl rfl (by kernel_rfl) rfl rfl ?_)
      obtain ⟨W2,hW2,x2,-,A2⟩:=aB W1 87 x.cells;rw [show W1.alloc (.cells x.cells.toArray 87)=W2 from hW2.symm];obtain ⟨BX,MX⟩: ∃BX,BX=W1.heap.size:=⟨_,rfl⟩;have hs2:W2.heap.size=BX+1:=by rw [hW2,MX];simp
      rw [←MX]at A2;replace HC:=ae (HC.out.grow x2);have dC:Hid (aA W2 x.la x.lc x.lines∧bP W2 3 x.ma x.mc (x.moves.map bH.cells)∧(∀p,x.la=some p→X<p.block∧p.block<BX)∧(∀p,x.ma=some p→X<p.block∧p.block<BX)):=⟨eK.out.1.ext x2,eK.out.2.1.ext x2,by rw [MX];exact eK.out.2.2⟩;have qf:=ae A2;have nX:=ae hs2;try rw [←MX]
      clear eK hW2 x2 A2 hs2 MX;have xk: ∀j v,([i64 (hh:Int),.slice rb hh rc,.slice ba nb bc,.slice la ls.length lc,.slice ua us.length uc,.slice sa ss.length sc,.slice ta ts.length tc,.slice oa os.length oc])[j]?=some v→W2.cell? ((⟨X,0,none⟩:Addr).add j)=some v:=fun j v hj=>by rw [dP,HC.out.bK.cell j];exact hj
      go_upto_region 36 with(first|(refine aQ rfl 32 _ rfl ⟨X,0,none⟩ rfl [i64 (hh:Int),.slice rb hh rc,.slice ba nb bc,.slice la ls.length lc,.slice ua us.length uc,.slice sa ss.length sc,.slice ta ts.length tc,.slice oa os.length oc] _ xk rfl rfl (by kernel_rfl) ?_)|(refine bD rfl 32 _ _ rfl jc.cells [i64 (hh:Int),.slice rb hh rc,.slice ba nb bc,.slice la ls.length lc,.slice ua us.length uc,.slice sa ss.length sc,.slice ta ts.length tc,.slice oa os.length oc] rfl rfl (by kernel_rfl) rfl rfl ?_))
      obtain ⟨W3,hW3,x3,-,A3⟩:=aB W2 32 [i64 (hh:Int),.slice rb hh rc,.slice ba nb bc,.slice la ls.length lc,.slice ua us.length uc,.slice sa ss.length sc,.slice ta ts.length tc,.slice oa os.length oc];rw [show W2.alloc (.cells #[i64 (hh:Int),.slice rb hh rc,.slice ba nb bc,.slice la ls.length lc,.slice ua us.length uc,.slice sa ss.length sc,.slice ta ts.length tc,.slice oa os.length oc] 32)=W3 from hW3.symm];obtain ⟨KD,Tx⟩: ∃KD,KD=W2.heap.size:=⟨_,rfl⟩;obtain ⟨G,hG⟩: ∃G,G=W3.heap.size:=⟨_,rfl⟩;have hs3:G=KD+1:=by rw [hG,hW3,Tx];simp
      have hs2:=nX.out;rw [←Tx]at A3;try rw [←Tx]
      have IY:=ae A3;have Ib:Hid (dv (fun b=>b≠KD) (⟨hh,rb,rc,rs,ba,bc,bs,la,lc,ls,ua,uc,us,sa,sc,ss,ta,tc,ts,oa,oc,os⟩:aq)):=HC.out.bl.mono fun b hb=>by omega
      have HOLD:Hid (dv (fun b=>b<G) (⟨hh,rb,rc,rs,ba,bc,bs,la,lc,ls,ua,uc,us,sa,sc,ss,ta,tc,ts,oa,oc,os⟩:aq)):=HC.out.bl.mono fun b hb=>by omega
      have f_:=HC.out.bK.lt;have Wj:Hid (X<G):=by(show _<_;omega)
      have OP:Hid (X<KD∧KD<G):=by(show _∧_;omega)
      have R8:Hid (G=W3.heap.size):=hG;have Cz:Hid (W3.heap.size≤G):=Nat.le_of_eq hG.symm;have pT:Hid (aA W3 x.la x.lc x.lines∧bP W3 3 x.ma x.mc (x.moves.map bH.cells)∧(∀p,x.la=some p→X<p.block∧p.block<G)∧(∀p,x.ma=some p→X<p.block∧p.block<G)):=⟨dC.out.1.ext x3,dC.out.2.1.ext x3,fun p hp=>by have:=dC.out.2.2.1 p hp;omega,fun p hp=>by have:=dC.out.2.2.2 p hp;omega⟩
      have C4:Hid (∀y∈os++ [x],fg (fun b=>b≠KD) y.la∧fg (fun b=>b≠KD) y.ma):=fun y hy=>by
       rcases List.mem_append.1 hy with q|q
       ·exact Ib.out.out y q
       ·rw [List.mem_singleton]at q;subst q
        exact ⟨fun p hp=>by have:=dC.out.2.2.1 p hp;omega,fun p hp=>by have:=dC.out.2.2.2 p hp;omega⟩
      have Et:Hid (∀y∈os++ [x],y.name.size≤maxLen∧ ∀m∈y.moves,fp [m.unit,m.up,m.down]):=fun y hy=>by
       rcases List.mem_append.1 hy with q|q
       ·have h5:=HC.out.case'.out y q
        exact ⟨h5.1,h5.2.2.2⟩
       ·rw [List.mem_singleton]at q;subst q
        exact HM.out.x_ (by have:=Kp.out;omega) (by have:=rP.out;omega)
      have Kq:Hid (oa=none→os.length=0∧oc=0):=fun e=>by
       have h5:=HC.out.case'.outs;by_cases q:os= []
       ·exact ⟨by rw [q];rfl,(D8.out q).2⟩
       ·obtain ⟨b3,o3,h6,-⟩:=h5.cell 0 (by rw [List.length_map];exact List.length_pos_iff.2 q)
        rw [e]at h6;cases h6
      have gQ:Hid (W3.cell? ⟨X,7,none⟩=some (.slice oa os.length oc)∧W3.cell? ⟨BX,0,none⟩=some (.string x.name)∧W3.cell? ⟨BX,1,none⟩=some (.slice x.la x.lines.length x.lc)∧W3.cell? ⟨BX,2,none⟩=some (.bool x.bJ)∧W3.cell? ⟨BX,3,none⟩=some (.slice x.ma x.moves.length x.mc)):=
       ⟨ai x3 ((HC.out.bK.cell 7).trans rfl),ai x3 ((qf.out.cell 0).trans rfl),ai x3 ((qf.out.cell 1).trans rfl),ai x3 ((qf.out.cell 2).trans rfl),ai x3 ((qf.out.cell 3).trans rfl)⟩
      replace HC:=ae (HC.out.grow x3);clear hW3 x3 A3 hs3 hs2 Tx hG f_ xk dC qf nX;simp only [Act.put];go_cut [] (fun wx=> ∃(os2:List bI) (g2:Option Addr) (k2:Nat),os2=os++ [x]∧CW V T R X a c l [i64 (hh:Int),.slice rb hh rc,.slice ba nb bc,.slice la ls.length lc,.slice ua us.length uc,.slice sa ss.length sc,.slice ta ts.length tc,.slice oa os.length oc] (⟨hh,rb,rc,rs,ba,bc,bs,la,lc,ls,ua,uc,us,sa,sc,ss,ta,tc,ts,oa,oc,os⟩:aq) wx∧aT wx (⟨hh,rb,rc,rs,ba,bc,bs,la,lc,ls,ua,uc,us,sa,sc,ss,ta,tc,ts,g2,k2,os2⟩:aq)∧dv (fun b=>X<b∧b<wx.heap.size) (⟨hh,rb,rc,rs,ba,bc,bs,la,lc,ls,ua,uc,us,sa,sc,ss,ta,tc,ts,g2,k2,os2⟩:aq)∧aG wx KD 32 [i64 (hh:Int),.slice rb hh rc,.slice ba nb bc,.slice la ls.length lc,.slice ua us.length uc,.slice sa ss.length sc,.slice ta ts.length tc,.slice g2 os2.length k2])
      case first=>
       as_aux_lemma=>
        refine ay (fun w'=>True) (fun w'=>w'.cell? ⟨X,7,none⟩=some (.slice oa os.length oc)∧w'.cell? ⟨BX,0,none⟩=some (.string x.name)∧w'.cell? ⟨BX,1,none⟩=some (.slice x.la x.lines.length x.lc)∧w'.cell? ⟨BX,2,none⟩=some (.bool x.bJ)∧w'.cell? ⟨BX,3,none⟩=some (.slice x.ma x.moves.length x.mc)) (fun i=>i==8) (by kernel_rfl) (trivial) (⟨ai ((Ext.refl W3).drew) gQ.out.1,ai ((Ext.refl W3).drew) gQ.out.2.1,ai ((Ext.refl W3).drew) gQ.out.2.2.1,ai ((Ext.refl W3).drew) gQ.out.2.2.2.1,ai ((Ext.refl W3).drew) gQ.out.2.2.2.2⟩) (fun ar ah=> ?_);refine av 1 (.pointer (some ⟨X,7,none⟩)) rfl ar ah ?_;simp only [sS];refine cK (i:=2) (v:= .slice oa os.length oc) rfl (by kernel_rfl) (by kernel_rfl) (by kernel_rfl) (by kernel_rfl) (by kernel_rfl) (by kernel_rfl) (fun _ _ _ h=>h) (Or.inl ⟨by rfl,fun w hSw=>by(obtain ⟨hSw,qA⟩:=hSw;have e0:=hSw;obtain ⟨d0,d1,d2,d3,d4⟩:=qA;go_simp)⟩) ar ah ?_;try simp only [sS]
        refine cK (i:=4) (v:= .agg #[.string x.name,.slice x.la x.lines.length x.lc,.bool x.bJ,.slice x.ma x.moves.length x.mc]) rfl (by kernel_rfl) (by kernel_rfl) (by kernel_rfl) (by kernel_rfl) (by kernel_rfl) (by kernel_rfl) (fun _ _ _ h=>h) (Or.inl ⟨by rfl,fun w hSw=>by(obtain ⟨hSw,qA⟩:=hSw;have e0:=hSw;obtain ⟨d0,d1,d2,d3,d4⟩:=qA;go_simp)⟩) ar ah ?_;try simp only [sS]
        have HX:=ae ((Ext.refl W3).drew);replace HC:=ae (HC.out.grow HX.out);replace pT:Hid (aA W3.drew x.la x.lc x.lines∧bP W3.drew 3 x.ma x.mc (x.moves.map bH.cells)∧(∀p,x.la=some p→X<p.block∧p.block<G)∧(∀p,x.ma=some p→X<p.block∧p.block<G)):=⟨pT.out.1.ext HX.out,pT.out.2.1.ext HX.out,pT.out.2.2⟩;have IW:Hid (G≤W3.drew.heap.size):=Nat.le_trans (Nat.le_of_eq R8.out) HX.out.size;generalize W3.drew=Q0 at*;refine aZ (rs:= [0,5]) (by kernel_rfl) (by simp) ?_;refine aD.cons rfl (fun Kc hK=> ?_) (aD.cons rfl (fun Kc hK=> ?_) aD.nil)
        ·go_simp
         obtain ⟨Q1,hW2⟩: ∃W2,W2=Q0.alloc (.cells #[] 87):=⟨_,rfl⟩;have x2:Ext Q0 Q1:=by rw [hW2];exact (Ext.refl Q0).alloc _
         obtain ⟨G0,NM⟩: ∃G0,G0=Q0.heap.size:=⟨_,rfl⟩
         have HP:Hid (gC V T R X G a c l [i64 (hh:Int),.slice rb hh rc,.slice ba nb bc,.slice la ls.length lc,.slice ua us.length uc,.slice sa ss.length sc,.slice ta ts.length tc,.slice oa os.length oc] (⟨hh,rb,rc,rs,ba,bc,bs,la,lc,ls,ua,uc,us,sa,sc,ss,ta,tc,ts,oa,oc,os⟩:aq) 87 4 (some ⟨G0,0,none⟩) 0 ([]) (zM (os++ [x])) (zN (os++ [x])) Q1):=by
             rw [hW2,NM];exact wj HC.out IW.out HOLD.out Wj.out pT.out.1 pT.out.2.1 pT.out.2.2.1 pT.out.2.2.2
         rw [←hW2,←NM];replace HX:=ae (HX.out.trans x2);clear HC pT IW NM hW2 x2;refine hK.out _ _ (trivial) (⟨ai (HX.out) gQ.out.1,ai (HX.out) gQ.out.2.1,ai (HX.out) gQ.out.2.2.1,ai (HX.out) gQ.out.2.2.2.1,ai (HX.out) gQ.out.2.2.2.2⟩) (fun ar ah=> ?_);clear hK Kc;try simp only [sS]
         refine aZ (rs:= [3,5]) (by kernel_rfl) (by simp) ?_;refine aD.cons rfl (fun Kc hK=> ?_) (aD.cons rfl (fun Kc hK=> ?_) aD.nil)
         ·rw [if_pos (by rfl)]
          refine fZ _ (.tmp 220) (.tmp 222) 30 rfl G 87 (.agg pG.cells.toArray) 4 72 Tryz.underlying30 Tryz.info_outage rfl (by decide) (.slice (some ⟨G0,0,none⟩) 0 0) 0 [] rfl HP.out.own.own oa os.length oc (os.map bI.cells).flatten rfl ?c1 ?c2 ?c3 ?c4 ?c5 (by decide) HP.out.size ?_
          case c1=>rw [gV (m:=4) _ (fun r hr=>by obtain ⟨o,-,rfl⟩:=List.mem_map.1 hr;rfl),List.length_map]
          case c2=>exact HP.out.cw.case'.outs.flat (by decide) (fun r hr=>by obtain ⟨o,-,rfl⟩:=List.mem_map.1 hr;rfl)
          case c3=>
                intro u hu;obtain ⟨r,hr,hu⟩:=List.mem_flatten.1 hu;obtain ⟨o,-,rfl⟩:=List.mem_map.1 hr;exact List.all_eq_true.1 (show o.cells.all (·.oneCell')=true from rfl) u hu
          case c4=>exact fun e=>Kq.out e
          case c5=>have:=Kp.out;omega
          intro v1 Q2 ho he hb hz hv;replace HX:=ae (he.out W3 HX.out Cz.out);obtain ⟨ga,gc,rfl,mg⟩:=HP.out.Er (rows':=os.map bI.cells) ⟨by have h5:=ho.out;rw [Nat.zero_add,List.nil_append]at h5;rw [List.length_map];exact h5,fun r hr=>by obtain ⟨o,-,rfl⟩:=List.mem_map.1 hr;rfl⟩ he.out hb.out hz.out hv.out;rw [List.length_map];replace HP:=ae mg;clear mg ho he hb hz hv;refine hK.out _ _ (trivial) (⟨ai (HX.out) gQ.out.1,ai (HX.out) gQ.out.2.1,ai (HX.out) gQ.out.2.2.1,ai (HX.out) gQ.out.2.2.2.1,ai (HX.out) gQ.out.2.2.2.2⟩) (fun ar ah=> ?_);clear hK Kc;try simp only [sS]
          refine cG 5 rfl (fun Kc hK=> ?_);rw [if_pos (by rfl)];refine cH 30 (.tmp 224) rfl 87 (.agg pG.cells.toArray) 4 72 Tryz.underlying30 Tryz.info_outage (by decide) (by decide) x.cells rfl rfl ?_;intro Q3 kV x2;obtain ⟨BS,Lg⟩: ∃BS,BS=Q2.heap.size:=⟨_,rfl⟩;rw [←Lg]at kV⊢;have HAS:=ae kV;replace HP:=ae (HP.out.grow x2);replace HX:=ae (HX.out.trans x2);clear Lg kV x2;refine hK.out _ _ (trivial) (⟨ai (HX.out) gQ.out.1,ai (HX.out) gQ.out.2.1,ai (HX.out) gQ.out.2.2.1,ai (HX.out) gQ.out.2.2.2.1,ai (HX.out) gQ.out.2.2.2.2⟩) (fun ar ah=> ?_);clear hK Kc;try simp only [sS]
          refine cG 6 rfl (fun Kc hK=> ?_);rw [if_pos (by rfl)];refine dS _ (.tmp 223) (.tmp 225) 30 rfl G 87 (.agg pG.cells.toArray) 4 72 Tryz.underlying30 Tryz.info_outage rfl (by decide) (.slice ga os.length gc) os.length (os.map bI.cells).flatten rfl ?c1 BS x.cells rfl rfl HAS.out rfl ?c5 (by decide) HP.out.size ?_
          case c1=>
                have h5:=HP.out.own.own;rw [List.length_map]at h5;exact h5
          case c5=>have:=Kp.out;omega
          intro v1 Q4 ho he hb hz hv;replace HX:=ae (he.out W3 HX.out Cz.out);have hl0:(os.map bI.cells).length=os.length:=List.length_map _;have rk:(os++ [x]).map bI.cells=os.map bI.cells++ [x.cells]:=by simp
          obtain ⟨g2,k2,rfl,mg⟩:=HP.out.Er (rows':=(os++ [x]).map bI.cells) (by rw [rk];exact HP.out.own.snoc (w':=Q4) (r:=x.cells) rfl (by rw [hl0];exact ho.out)) he.out (by rw [hl0];exact hb.out) hz.out (by rw [hl0];exact hv.out);rw [List.length_map];obtain ⟨os2,um⟩: ∃os2,os2=os++ [x]:=⟨_,rfl⟩;rw [←um]at mg⊢;have pn:=ae um;clear HP;have HP:=ae mg;clear mg ho he hb hz hv hl0 rk um;refine hK.out _ _ (trivial) (⟨ai (HX.out) gQ.out.1,ai (HX.out) gQ.out.2.1,ai (HX.out) gQ.out.2.2.1,ai (HX.out) gQ.out.2.2.2.1,ai (HX.out) gQ.out.2.2.2.2⟩) (fun ar ah=> ?_);clear hK Kc;try simp only [sS]
          refine av 7 (.pointer (some ⟨KD,7,none⟩)) rfl ar ah ?_;simp only [sS];refine aZ (rs:= [8]) (by kernel_rfl) (by simp) ?_;refine aD.late rfl (by kernel_rfl) (fun Kc hK=> ?_) aD.nil;have R9:Q4.cell? ⟨KD,7,none⟩=some (.slice oa os.length oc):=((IY.out.ext HX.out).cell 7).trans rfl;have R_:=(IY.out.ext HX.out).frozen 7;have Sa:aG (Q4.setCell ⟨KD,7,none⟩ (.slice g2 os2.length k2)) KD 32 [i64 (hh:Int),.slice rb hh rc,.slice ba nb bc,.slice la ls.length lc,.slice ua us.length uc,.slice sa ss.length sc,.slice ta ts.length tc,.slice g2 os2.length k2]:=(IY.out.ext HX.out).set 7 _;have hO:=uj (K:=KD) (j:=7) (v:= .slice g2 os2.length k2) HP.out (by rw [pn.out];exact Et.out) OP.out.1 OP.out.2 Ib.out (by rw [pn.out];exact C4.out);go_simp;refine hK.out _ _ (trivial) (fun ar=> ?_);clear hK Kc R9 R_;try simp only [sS]
          refine ax (by kernel_rfl) ?_ _;clear ar;go_wp2_with fail
          go_meet
          exact ⟨os2,g2,k2,pn.out,hO.1,hO.2.1,hO.2.2,Sa⟩
         ·rw [if_pos (by rfl)]
          refine cH 30 (.tmp 224) rfl 87 (.agg pG.cells.toArray) 4 72 Tryz.underlying30 Tryz.info_outage (by decide) (by decide) x.cells rfl rfl ?_;intro Q2 kV x2;obtain ⟨BS,Lg⟩: ∃BS,BS=Q1.heap.size:=⟨_,rfl⟩;rw [←Lg]at kV⊢;have HAS:=ae kV;have tq:Hid (BS≠G0):=by(have:=(HP.out.kR _ rfl).2;simp only at this;show _≠_;omega)
          replace HP:=ae (HP.out.grow x2);replace HX:=ae (HX.out.trans x2);clear Lg kV x2;refine hK.out _ _ (trivial) (⟨ai (HX.out) gQ.out.1,ai (HX.out) gQ.out.2.1,ai (HX.out) gQ.out.2.2.1,ai (HX.out) gQ.out.2.2.2.1,ai (HX.out) gQ.out.2.2.2.2⟩) (fun ar ah=> ?_);clear hK Kc;try simp only [sS]
          refine cG 3 rfl (fun Kc hK=> ?_);rw [if_pos (by rfl)];refine fZ _ (.tmp 220) (.tmp 222) 30 rfl G 87 (.agg pG.cells.toArray) 4 72 Tryz.underlying30 Tryz.info_outage rfl (by decide) (.slice (some ⟨G0,0,none⟩) 0 0) 0 [] rfl HP.out.own.own oa os.length oc (os.map bI.cells).flatten rfl ?c1 ?c2 ?c3 ?c4 ?c5 (by decide) HP.out.size ?_
          case c1=>rw [gV (m:=4) _ (fun r hr=>by obtain ⟨o,-,rfl⟩:=List.mem_map.1 hr;rfl),List.length_map]
          case c2=>exact HP.out.cw.case'.outs.flat (by decide) (fun r hr=>by obtain ⟨o,-,rfl⟩:=List.mem_map.1 hr;rfl)
          case c3=>
                intro u hu;obtain ⟨r,hr,hu⟩:=List.mem_flatten.1 hu;obtain ⟨o,-,rfl⟩:=List.mem_map.1 hr;exact List.all_eq_true.1 (show o.cells.all (·.oneCell')=true from rfl) u hu
          case c4=>exact fun e=>Kq.out e
          case c5=>have:=Kp.out;omega
          intro v1 Q3 ho he hb hz hv;replace HX:=ae (he.out W3 HX.out Cz.out);obtain ⟨ga,gc,rfl,mg⟩:=HP.out.Er (rows':=os.map bI.cells) ⟨by have h5:=ho.out;rw [Nat.zero_add,List.nil_append]at h5;rw [List.length_map];exact h5,fun r hr=>by obtain ⟨o,-,rfl⟩:=List.mem_map.1 hr;rfl⟩ he.out hb.out hz.out hv.out;rw [List.length_map];replace HAS:Hid (aG Q3 BS 87 x.cells):=(hb.out BS HAS.out.lt (by have:=tq.out;intro e;cases e;exact this rfl)).trans HAS.out;replace HP:=ae mg;clear mg ho he hb hz hv;refine hK.out _ _ (trivial) (⟨ai (HX.out) gQ.out.1,ai (HX.out) gQ.out.2.1,ai (HX.out) gQ.out.2.2.1,ai (HX.out) gQ.out.2.2.2.1,ai (HX.out) gQ.out.2.2.2.2⟩) (fun ar ah=> ?_);clear hK Kc;try simp only [sS]
          refine cG 6 rfl (fun Kc hK=> ?_);rw [if_pos (by rfl)];refine dS _ (.tmp 223) (.tmp 225) 30 rfl G 87 (.agg pG.cells.toArray) 4 72 Tryz.underlying30 Tryz.info_outage rfl (by decide) (.slice ga os.length gc) os.length (os.map bI.cells).flatten rfl ?c1 BS x.cells rfl rfl HAS.out rfl ?c5 (by decide) HP.out.size ?_
          case c1=>
                have h5:=HP.out.own.own;rw [List.length_map]at h5;exact h5
          case c5=>have:=Kp.out;omega
          intro v1 Q4 ho he hb hz hv;replace HX:=ae (he.out W3 HX.out Cz.out);have hl0:(os.map bI.cells).length=os.length:=List.length_map _;have rk:(os++ [x]).map bI.cells=os.map bI.cells++ [x.cells]:=by simp
          obtain ⟨g2,k2,rfl,mg⟩:=HP.out.Er (rows':=(os++ [x]).map bI.cells) (by rw [rk];exact HP.out.own.snoc (w':=Q4) (r:=x.cells) rfl (by rw [hl0];exact ho.out)) he.out (by rw [hl0];exact hb.out) hz.out (by rw [hl0];exact hv.out);rw [List.length_map];obtain ⟨os2,um⟩: ∃os2,os2=os++ [x]:=⟨_,rfl⟩;rw [←um]at mg⊢;have pn:=ae um;clear HP;have HP:=ae mg;clear mg ho he hb hz hv hl0 rk um;refine hK.out _ _ (trivial) (⟨ai (HX.out) gQ.out.1,ai (HX.out) gQ.out.2.1,ai (HX.out) gQ.out.2.2.1,ai (HX.out) gQ.out.2.2.2.1,ai (HX.out) gQ.out.2.2.2.2⟩) (fun ar ah=> ?_);clear hK Kc;try simp only [sS]
          refine av 7 (.pointer (some ⟨KD,7,none⟩)) rfl ar ah ?_;simp only [sS];refine aZ (rs:= [8]) (by kernel_rfl) (by simp) ?_;refine aD.late rfl (by kernel_rfl) (fun Kc hK=> ?_) aD.nil;have R9:Q4.cell? ⟨KD,7,none⟩=some (.slice oa os.length oc):=((IY.out.ext HX.out).cell 7).trans rfl;have R_:=(IY.out.ext HX.out).frozen 7;have Sa:aG (Q4.setCell ⟨KD,7,none⟩ (.slice g2 os2.length k2)) KD 32 [i64 (hh:Int),.slice rb hh rc,.slice ba nb bc,.slice la ls.length lc,.slice ua us.length uc,.slice sa ss.length sc,.slice ta ts.length tc,.slice g2 os2.length k2]:=(IY.out.ext HX.out).set 7 _;have hO:=uj (K:=KD) (j:=7) (v:= .slice g2 os2.length k2) HP.out (by rw [pn.out];exact Et.out) OP.out.1 OP.out.2 Ib.out (by rw [pn.out];exact C4.out);go_simp;refine hK.out _ _ (trivial) (fun ar=> ?_);clear hK Kc R9 R_;try simp only [sS]
          refine ax (by kernel_rfl) ?_ _;clear ar;go_wp2_with fail
          go_meet
          exact ⟨os2,g2,k2,pn.out,hO.1,hO.2.1,hO.2.2,Sa⟩
        ·rw [if_pos (by rfl)]
         refine cH 30 (.tmp 224) rfl 87 (.agg pG.cells.toArray) 4 72 Tryz.underlying30 Tryz.info_outage (by decide) (by decide) x.cells rfl rfl ?_;intro Q1 kV x2;obtain ⟨BS,Lg⟩: ∃BS,BS=Q0.heap.size:=⟨_,rfl⟩;rw [←Lg]at kV⊢;have HAS:=ae kV;replace HC:=ae (HC.out.grow x2);replace pT:Hid (aA Q1 x.la x.lc x.lines∧bP Q1 3 x.ma x.mc (x.moves.map bH.cells)∧(∀p,x.la=some p→X<p.block∧p.block<G)∧(∀p,x.ma=some p→X<p.block∧p.block<G)):=⟨pT.out.1.ext x2,pT.out.2.1.ext x2,pT.out.2.2⟩;replace IW:Hid (G≤Q1.heap.size):=Nat.le_trans IW.out x2.size;replace HX:=ae (HX.out.trans x2);clear Lg kV x2;refine hK.out _ _ (trivial) (⟨ai (HX.out) gQ.out.1,ai (HX.out) gQ.out.2.1,ai (HX.out) gQ.out.2.2.1,ai (HX.out) gQ.out.2.2.2.1,ai (HX.out) gQ.out.2.2.2.2⟩) (fun ar ah=> ?_);clear hK Kc;try simp only [sS]
         refine cG 0 rfl (fun Kc hK=> ?_);go_simp;obtain ⟨Q2,hW2⟩: ∃W2,W2=Q1.alloc (.cells #[] 87):=⟨_,rfl⟩;have x2:Ext Q1 Q2:=by rw [hW2];exact (Ext.refl Q1).alloc _
         obtain ⟨G0,NM⟩: ∃G0,G0=Q1.heap.size:=⟨_,rfl⟩
         have HP:Hid (gC V T R X G a c l [i64 (hh:Int),.slice rb hh rc,.slice ba nb bc,.slice la ls.length lc,.slice ua us.length uc,.slice sa ss.length sc,.slice ta ts.length tc,.slice oa os.length oc] (⟨hh,rb,rc,rs,ba,bc,bs,la,lc,ls,ua,uc,us,sa,sc,ss,ta,tc,ts,oa,oc,os⟩:aq) 87 4 (some ⟨G0,0,none⟩) 0 ([]) (zM (os++ [x])) (zN (os++ [x])) Q2):=by
             rw [hW2,NM];exact wj HC.out IW.out HOLD.out Wj.out pT.out.1 pT.out.2.1 pT.out.2.2.1 pT.out.2.2.2
         rw [←hW2,←NM];replace HX:=ae (HX.out.trans x2);have tq:Hid (BS≠G0):=by(have:=HAS.out.lt;show _≠_;omega)
         replace HAS:=ae (HAS.out.ext x2);clear HC pT IW NM hW2 x2;refine hK.out _ _ (trivial) (⟨ai (HX.out) gQ.out.1,ai (HX.out) gQ.out.2.1,ai (HX.out) gQ.out.2.2.1,ai (HX.out) gQ.out.2.2.2.1,ai (HX.out) gQ.out.2.2.2.2⟩) (fun ar ah=> ?_);clear hK Kc;try simp only [sS]
         refine cG 3 rfl (fun Kc hK=> ?_);rw [if_pos (by rfl)];refine fZ _ (.tmp 220) (.tmp 222) 30 rfl G 87 (.agg pG.cells.toArray) 4 72 Tryz.underlying30 Tryz.info_outage rfl (by decide) (.slice (some ⟨G0,0,none⟩) 0 0) 0 [] rfl HP.out.own.own oa os.length oc (os.map bI.cells).flatten rfl ?c1 ?c2 ?c3 ?c4 ?c5 (by decide) HP.out.size ?_
         case c1=>rw [gV (m:=4) _ (fun r hr=>by obtain ⟨o,-,rfl⟩:=List.mem_map.1 hr;rfl),List.length_map]
         case c2=>exact HP.out.cw.case'.outs.flat (by decide) (fun r hr=>by obtain ⟨o,-,rfl⟩:=List.mem_map.1 hr;rfl)
         case c3=>
             intro u hu;obtain ⟨r,hr,hu⟩:=List.mem_flatten.1 hu;obtain ⟨o,-,rfl⟩:=List.mem_map.1 hr;exact List.all_eq_true.1 (show o.cells.all (·.oneCell')=true from rfl) u hu
         case c4=>exact fun e=>Kq.out e
         case c5=>have:=Kp.out;omega
         intro v1 Q3 ho he hb hz hv;replace HX:=ae (he.out W3 HX.out Cz.out);obtain ⟨ga,gc,rfl,mg⟩:=HP.out.Er (rows':=os.map bI.cells) ⟨by have h5:=ho.out;rw [Nat.zero_add,List.nil_append]at h5;rw [List.length_map];exact h5,fun r hr=>by obtain ⟨o,-,rfl⟩:=List.mem_map.1 hr;rfl⟩ he.out hb.out hz.out hv.out;rw [List.length_map];replace HAS:Hid (aG Q3 BS 87 x.cells):=(hb.out BS HAS.out.lt (by have:=tq.out;intro e;cases e;exact this rfl)).trans HAS.out;replace HP:=ae mg;clear mg ho he hb hz hv;refine hK.out _ _ (trivial) (⟨ai (HX.out) gQ.out.1,ai (HX.out) gQ.out.2.1,ai (HX.out) gQ.out.2.2.1,ai (HX.out) gQ.out.2.2.2.1,ai (HX.out) gQ.out.2.2.2.2⟩) (fun ar ah=> ?_);clear hK Kc;try simp only [sS]
         refine cG 6 rfl (fun Kc hK=> ?_);rw [if_pos (by rfl)];refine dS _ (.tmp 223) (.tmp 225) 30 rfl G 87 (.agg pG.cells.toArray) 4 72 Tryz.underlying30 Tryz.info_outage rfl (by decide) (.slice ga os.length gc) os.length (os.map bI.cells).flatten rfl ?c1 BS x.cells rfl rfl HAS.out rfl ?c5 (by decide) HP.out.size ?_
         case c1=>
             have h5:=HP.out.own.own;rw [List.length_map]at h5;exact h5
         case c5=>have:=Kp.out;omega
         intro v1 Q4 ho he hb hz hv;replace HX:=ae (he.out W3 HX.out Cz.out);have hl0:(os.map bI.cells).length=os.length:=List.length_map _;have rk:(os++ [x]).map bI.cells=os.map bI.cells++ [x.cells]:=by simp
         obtain ⟨g2,k2,rfl,mg⟩:=HP.out.Er (rows':=(os++ [x]).map bI.cells) (by rw [rk];exact HP.out.own.snoc (w':=Q4) (r:=x.cells) rfl (by rw [hl0];exact ho.out)) he.out (by rw [hl0];exact hb.out) hz.out (by rw [hl0];exact hv.out);rw [List.length_map];obtain ⟨os2,um⟩: ∃os2,os2=os++ [x]:=⟨_,rfl⟩;rw [←um]at mg⊢;have pn:=ae um;clear HP;have HP:=ae mg;clear mg ho he hb hz hv hl0 rk um;refine hK.out _ _ (trivial) (⟨ai (HX.out) gQ.out.1,ai (HX.out) gQ.out.2.1,ai (HX.out) gQ.out.2.2.1,ai (HX.out) gQ.out.2.2.2.1,ai (HX.out) gQ.out.2.2.2.2⟩) (fun ar ah=> ?_);clear hK Kc;try simp only [sS]
         refine av 7 (.pointer (some ⟨KD,7,none⟩)) rfl ar ah ?_;simp only [sS];refine aZ (rs:= [8]) (by kernel_rfl) (by simp) ?_;refine aD.late rfl (by kernel_rfl) (fun Kc hK=> ?_) aD.nil;have R9:Q4.cell? ⟨KD,7,none⟩=some (.slice oa os.length oc):=((IY.out.ext HX.out).cell 7).trans rfl;have R_:=(IY.out.ext HX.out).frozen 7;have Sa:aG (Q4.setCell ⟨KD,7,none⟩ (.slice g2 os2.length k2)) KD 32 [i64 (hh:Int),.slice rb hh rc,.slice ba nb bc,.slice la ls.length lc,.slice ua us.length uc,.slice sa ss.length sc,.slice ta ts.length tc,.slice g2 os2.length k2]:=(IY.out.ext HX.out).set 7 _;have hO:=uj (K:=KD) (j:=7) (v:= .slice g2 os2.length k2) HP.out (by rw [pn.out];exact Et.out) OP.out.1 OP.out.2 Ib.out (by rw [pn.out];exact C4.out);go_simp;refine hK.out _ _ (trivial) (fun ar=> ?_);clear hK Kc R9 R_;try simp only [sS]
         refine ax (by kernel_rfl) ?_ _;clear ar;go_wp2_with fail
         go_meet
         exact ⟨os2,g2,k2,pn.out,hO.1,hO.2.1,hO.2.2,Sa⟩
      case rest=>
       obtain ⟨os2,g2,k2,Em,hC,Ty,hcb,hD⟩:=hcut;generalize wc=W6 at*;clear HC pT gQ C4 Et Kq Cz R8 IY Ib HOLD Wj;obtain ⟨cn,Ah⟩: ∃cn:aq,cn=(⟨hh,rb,rc,rs,ba,bc,bs,la,lc,ls,ua,uc,us,sa,sc,ss,ta,tc,ts,g2,k2,os2⟩:aq):=⟨_,rfl⟩;have Wk: [i64 (hh:Int),.slice rb hh rc,.slice ba nb bc,.slice la ls.length lc,.slice ua us.length uc,.slice sa ss.length sc,.slice ta ts.length tc,.slice g2 os2.length k2]=cn.cells:=by rw [Ah];simp only [aq.cells];rw [Ca.out.1,kp.out]
       have ZO:os2.length=os.length+1:=by rw [Em,List.length_append];rfl
       have kW:Hid (nN cn):=by
        have h1:=iB.out;have h2:=pX.out;have h3:=rP.out;have h4:=vU.out.1;have h5:=R6.out.1;have h6:=Kp.out;have h7:=kp.out
        rw [Ah];refine ⟨by simp only;omega,by simp only;omega,by simp only;omega,by simp only;omega,by simp only;omega,by simp only;omega,fun o ho=> ?_⟩;replace ho:o∈os++ [x]:=by rw [←Em];exact ho
        rcases List.mem_append.1 ho with q|q
        ·obtain ⟨j,hj,rfl⟩:=List.getElem_of_mem q
         have:=(Ko.out j hj).moves.len;omega
        ·rw [List.mem_singleton]at q;subst q
         have:=HM.out.moves.len;omega
       have Wl:Hid (oA os2 ls.length us.length):=by rw [Em];exact Ko.out.snoc HM.out
       have HC:=ae hC;have dB:Hid (aT W6 cn):=by rw [Ah];exact Ty
       have Tz:Hid (dv (fun b=>X<b∧b<W6.heap.size) cn):=by rw [Ah];exact hcb
       have HD:Hid (aG W6 KD 32 cn.cells):=by rw [←Wk];exact hD
       have Jz:Hid (cn=(⟨hh,rb,rc,rs,ba,bc,bs,la,lc,ls,ua,uc,us,sa,sc,ss,ta,tc,ts,g2,k2,os2⟩:aq)∧ [i64 (hh:Int),.slice rb hh rc,.slice ba nb bc,.slice la ls.length lc,.slice ua us.length uc,.slice sa ss.length sc,.slice ta ts.length tc,.slice g2 os2.length k2]=cn.cells∧os2.length=os.length+1):=⟨Ah,Wk,ZO⟩;clear hC Ty hcb hD Ah Wk ZO Em;have Sc: ∀j v,([i64 cn.hours,.slice cn.ra cn.az.length cn.rc,.slice cn.ba cn.au.length cn.bc,.slice cn.la cn.lines.length cn.lc,.slice cn.ua cn.aj.length cn.uc,.slice cn.sa cn.stores.length cn.sc,.slice cn.ta cn.aN.length cn.tc,.slice cn.oa cn.outs.length cn.oc])[j]?=some v→W6.cell? ((⟨KD,0,none⟩:Addr).add j)=some v:=fun j v hj=>by rw [dP,HD.out.cell j];exact hj
       go_wp2_with (refine aQ rfl 32 _ rfl ⟨KD,0,none⟩ rfl [i64 cn.hours,.slice cn.ra cn.az.length cn.rc,.slice cn.ba cn.au.length cn.bc,.slice cn.la cn.lines.length cn.lc,.slice cn.ua cn.aj.length cn.uc,.slice cn.sa cn.stores.length cn.sc,.slice cn.ta cn.aN.length cn.tc,.slice cn.oa cn.outs.length cn.oc] _ Sc rfl rfl (by kernel_rfl) ?_)
       refine (qy W6 cn dB.out kW.out).mono ?_;rintro e W7 ⟨k1,i1,f1,rfl,x7⟩;obtain ⟨ce,hce⟩: ∃ce,ce=bT cn:=⟨_,rfl⟩;rw [←hce];have Br:=ae hce;clear hce Sc;go_upto_region 38 with fail
       obtain ⟨W8,EX,x8,-,-⟩:=aB W7 52 [i64 k1,i64 i1,i64 f1];rw [show W7.alloc (.cells #[i64 k1,i64 i1,i64 f1] 52)=W8 from EX.symm];have Sd:=x7.trans x8;replace HC:=ae (HC.out.grow Sd);replace dB:=ae (dB.out.ext Sd);replace HD:=ae (HD.out.ext Sd)
       replace Tz:Hid (dv (fun b=>X<b∧b<W8.heap.size) cn):=Tz.out.mono fun b hb=>by have:=Sd.size;omega
       clear EX x8 x7 Sd;by_cases h0:ce=0
       ·have t1:(ce==0)=true:=by simpa using h0
        have HZ:Hid (bT cn=0):=by rw [←Br.out];exact h0
        clear h0;have Sc: ∀j v,([i64 cn.hours,.slice cn.ra cn.az.length cn.rc,.slice cn.ba cn.au.length cn.bc,.slice cn.la cn.lines.length cn.lc,.slice cn.ua cn.aj.length cn.uc,.slice cn.sa cn.stores.length cn.sc,.slice cn.ta cn.aN.length cn.tc,.slice cn.oa cn.outs.length cn.oc])[j]?=some v→W8.cell? ((⟨KD,0,none⟩:Addr).add j)=some v:=fun j v hj=>by rw [dP,HD.out.cell j];exact hj
        go_upto_region 33 with(first|(refine aQ rfl 32 _ rfl ⟨KD,0,none⟩ rfl [i64 cn.hours,.slice cn.ra cn.az.length cn.rc,.slice cn.ba cn.au.length cn.bc,.slice cn.la cn.lines.length cn.lc,.slice cn.ua cn.aj.length cn.uc,.slice cn.sa cn.stores.length cn.sc,.slice cn.ta cn.aN.length cn.tc,.slice cn.oa cn.outs.length cn.oc] _ Sc rfl rfl (by kernel_rfl) ?_)|(
            refine bF rfl 32 _ _ rfl X [i64 (hh:Int),.slice rb hh rc,.slice ba nb bc,.slice la ls.length lc,.slice ua us.length uc,.slice sa ss.length sc,.slice ta ts.length tc,.slice oa os.length oc] [i64 cn.hours,.slice cn.ra cn.az.length cn.rc,.slice cn.ba cn.au.length cn.bc,.slice cn.la cn.lines.length cn.lc,.slice cn.ua cn.aj.length cn.uc,.slice cn.sa cn.stores.length cn.sc,.slice cn.ta cn.aN.length cn.tc,.slice cn.oa cn.outs.length cn.oc] HC.out.bK rfl rfl (by kernel_rfl) rfl rfl ?_;intro W9 M6 iD
            have HC9:Hid (CW V T R X a c l [i64 (hh:Int),.slice rb hh rc,.slice ba nb bc,.slice la ls.length lc,.slice ua us.length uc,.slice sa ss.length sc,.slice ta ts.length tc,.slice g2 os2.length k2] (⟨hh,rb,rc,rs,ba,bc,bs,la,lc,ls,ua,uc,us,sa,sc,ss,ta,tc,ts,g2,k2,os2⟩:aq) W9):=by
             rw [Jz.out.2.1,←Jz.out.1];exact HC.out.reset M6 iD dB.out Tz.out
            clear M6 iD HC dB Tz HD Sc))
        clear t1;have q3:IntKind.i64.wrap ((k:Int)-1)=((k-1:Nat):Int):=by rw [IntKind.wrap_i64];have:=HK.out;omega
        have q4:wrap64 ((k:Int)-1)=((k-1:Nat):Int):=by unfold wrap64;have:=HK.out;omega
        go_wp2_with fail
        exact ⟨⟨k-1,os2,g2,k2,by(have:=Jz.out.2.2;have:=HK.out;have:=nW.out;omega),Wl.out,fun e=>absurd (congrArg List.length e) (by rw [Jz.out.2.2];simp),Or.inr (by rw [←Jz.out.1];exact HZ.out),HC9.out,by first|rfl|exact congrArg (Value.int IntKind.i64) q4⟩,by first|exact Nat.lt_of_le_of_lt (Nat.le_of_eq (congrArg Int.toNat q4)) (by show(((k-1:Nat):Int)).toNat<((k:Int)).toNat;omega)|(show(((k-1:Nat):Int)).toNat<((k:Int)).toNat;omega)⟩
       ·have t1:(ce==0)=false:=by simpa using h0
        clear h0;go_upto_region 33 with fail
        clear t1;have q3:IntKind.i64.wrap ((k:Int)-1)=((k-1:Nat):Int):=by rw [IntKind.wrap_i64];have:=HK.out;omega
        have q4:wrap64 ((k:Int)-1)=((k-1:Nat):Int):=by unfold wrap64;have:=HK.out;omega
        go_wp2_with fail
        exact ⟨⟨k-1,os,oa,oc,by(have:=HK.out;omega),Ko.out,D8.out,ky.out,HC.out,by first|rfl|exact congrArg (Value.int IntKind.i64) q4⟩,by first|exact Nat.lt_of_le_of_lt (Nat.le_of_eq (congrArg Int.toNat q4)) (by show(((k-1:Nat):Int)).toNat<((k:Int)).toNat;omega)|(show(((k-1:Nat):Int)).toNat<((k:Int)).toNat;omega)⟩
     ·have b1:decide ((0:Int)<(ls.length:Int))=false:=by rw [decide_eq_false_iff_not];omega
      have hl0:ls.length=0:=by omega
      go_wp2_with fail
      go_meet
      exact ⟨os,oa,oc,by(have:=HK.out;omega),Ko.out,ky.out,HC.out⟩
    ·obtain rfl:k=0:=by omega
     go_wp2_with fail
     go_meet
     exact ⟨os,oa,oc,by(have:=HK.out;omega),Ko.out,ky.out,HC.out⟩
 case rest=>
  obtain ⟨os,oa,oc,ZP,R7,eR,hC⟩:=hcut;generalize wc=WE at*;clear HC;have HC:=ae hC;have Ko:=ae (And.intro ZP (And.intro R7 eR))
  clear hC ZP R7 eR
  as_aux_lemma=>
   have HQ:Hid (∃x:aq,aT WE x∧fD hh nb x∧bT x=0∧dv (fun b=>X<b∧b<WE.heap.size) x∧ [i64 (hh:Int),.slice rb hh rc,.slice ba nb bc,.slice la ls.length lc,.slice ua us.length uc,.slice sa ss.length sc,.slice ta ts.length tc,.slice oa os.length oc]=x.cells):=by
    have NB:fD hh nb (⟨hh,rb,rc,rs,ba,bc,bs,la,lc,ls,ua,uc,us,sa,sc,ss,ta,tc,ts,oa,oc,os⟩:aq):=⟨rfl,HH.out,Ca.out,⟨kp.out,iB.out⟩,zU.out,pX.out,qL.out,rP.out,Ia.out,vU.out.1,vU.out.2,R6.out.1,R6.out.2,Ko.out.1,Ko.out.2.1⟩;refine ⟨(⟨hh,rb,rc,rs,ba,bc,bs,la,lc,ls,ua,uc,us,sa,sc,ss,ta,tc,ts,oa,oc,os⟩:aq),HC.out.case',NB,?_,HC.out.bl,?_⟩
    ·rcases Ko.out.2.2 with q|q
     ·exact NB.accept q
     ·exact q
    ·simp only [aq.cells]
     rw [Ca.out.1,kp.out]
   have xk: ∀j v,([i64 (hh:Int),.slice rb hh rc,.slice ba nb bc,.slice la ls.length lc,.slice ua us.length uc,.slice sa ss.length sc,.slice ta ts.length tc,.slice oa os.length oc])[j]?=some v→WE.cell? ((⟨X,0,none⟩:Addr).add j)=some v:=fun j v hj=>by rw [dP,HC.out.bK.cell j];exact hj
   go_wp2_with (first|(refine aQ rfl 32 _ rfl ⟨X,0,none⟩ rfl [i64 (hh:Int),.slice rb hh rc,.slice ba nb bc,.slice la ls.length lc,.slice ua us.length uc,.slice sa ss.length sc,.slice ta ts.length tc,.slice oa os.length oc] _ xk rfl rfl (by kernel_rfl) ?_)|(refine bF rfl 32 _ _ rfl R jc.cells [i64 (hh:Int),.slice rb hh rc,.slice ba nb bc,.slice la ls.length lc,.slice ua us.length uc,.slice sa ss.length sc,.slice ta ts.length tc,.slice oa os.length oc] HC.out.res rfl rfl (by kernel_rfl) rfl rfl ?_;intro xh jP dO))
   obtain ⟨xf,Ty,NB,hz,hbl,hce⟩:=HQ.out;have hp:=HC.out.pos;exact bodyPost_ret (v:= .agg ([i64 (hh:Int),.slice rb hh rc,.slice ba nb bc,.slice la ls.length lc,.slice ua us.length uc,.slice sa ss.length sc,.slice ta ts.length tc,.slice oa os.length oc]).toArray) (fo 2 _ rfl rfl jP rfl rfl (by kernel_rfl)) rfl ⟨hh,nb,xf,by rw [hce],Ty.but dO (hbl.mono fun b hb=>by omega),NB,hz,hbl.mono (fun b hb=>by omega),dO.ext HC.out.ext hp.2.1⟩
end Go.Proofs.YtkpngkdgphojlaaGreat
