/- Texts of the proof. -/
import Derived.Test.YtkpngkdgphojlaaGreatCc34
set_option linter.all false
namespace Go.Proofs.YtkpngkdgphojlaaGreat
open Go.RowKit
theorem Zqa {α:Type} (l:List α) (i:Nat) (h:i<l.length):l.toArray[i]'h=l[i]'h:=rfl
theorem Zqb {α:Type} (a:α) (l:List α) (i:Nat) (h:i+1<(a::l).length):(a::l)[i+1]=l[i]'(Nat.lt_of_succ_lt_succ h):=rfl
theorem Zqc {α:Type} (a:α) (l:List α) (h:0<(a::l).length):(a::l)[0]=a:=rfl
theorem Zqd {α:Type} (x:α) (l:List α) (a:α):(x::l).set 0 a=a::l:=rfl
theorem Zqe {α:Type} (x:α) (l:List α) (i:Nat) (a:α):(x::l).set (i+1) a=x::l.set i a:=rfl
set_option maxHeartbeats 40000000 in
set_option maxRecDepth 100000 in
theorem Ig (V:World) (T:Nat) (R:Nat) (X:Nat) (a:Option Addr) (c:Nat) (l:List Int) (hh:Nat) (nb:Nat) (rc:Nat) (bc:Nat) (rb:Option Addr) (ba:Option Addr) (rs:List Int) (bs:List cN) (ls:List aS) (la:Option Addr) (lc:Nat) (us:List aF) (ua:Option Addr) (uc:Nat) (HL:Hid (aA V a c l)) (m_:Hid (V.heap.size≤T∧V.heap.size≤R)) (HH:Hid (1≤hh∧hh≤3)) (Ca:Hid (rs.length=hh∧ ∀z∈rs,0≤z∧z<5)) (iB:Hid (1≤nb∧nb≤4)) (zU:Hid (∀j (h:j<bs.length),js bs[j] j hh)) (kp:Hid (bs.length=nb)) (qL:Hid (fC ls nb hh)) (pX:Hid (ls.length≤7)) (Ia:Hid (iU us nb hh)) (rP:Hid (1≤us.length∧us.length≤3)) (WQ:World) (HC:Hid (CW V T R X a c l [i64 (hh:Int),.slice rb hh rc,.slice ba nb bc,.slice la ls.length lc,.slice ua us.length uc,.slice none 0 0,.slice none 0 0,.slice none 0 0] (⟨hh,rb,rc,rs,ba,bc,bs,la,lc,ls,ua,uc,us,none,0,[],none,0,[],none,0,[]⟩:aq) WQ)) {u0 u1 u5 u6 u8 u9 u10 u11 u12 u13 u14 u15 u16 u17 u18 u19 u20 u21 u22 u23 u24 u25 u26 u27 u28 u29 u30 u31 u32 u33 u34 u35 u36 u37 u38 u39 u40 u41 u42 u43 u44 u45 u46 u47 u48 u49 u50 u51 u52 u53 u54 u55 u56 u57 u58 u59 u60 u61 u62 u63 u64 u65 u66 u67 u68 u69 u70 u71 u72 u73 u74 u75 u76 u77 u78 u79 u80 u81 u82 u83 u84 u85 u86 u87 u88 u89 u90 u91 u92 u93 u94 u95 u96 u97 u98 u99 u100 u101 u102 u103 u104 u105 u106 u107 u108 u109 u110 u111 u112 u113 u114 u115 u116 u117 u118 u119 u120 u121 u122 u123 u124 u125 u126 u127 u128 u129 u130 u131 u132 u133 u134 u135 u136 u137 u138 u139 u140 u141 u142 u143 u144 u145 u146 u147 u148 u149 u150 u151 u152 u153 u154 u155 u156 u157 u158 u159 u160 u161 u162 u163 u164 u165 u166 u167 u168 u169 u170 u171 u172 u173 u174 u175 u176 u177 u178 u179 u180 u181 u182 u183 u184 u185 u186 u187 u188 u189 u190 u191 u192 u193 u194 u195 u196 u197 u198 u199 u200 u201 u202 u203 u204 u205 u206 u207 u208 u209 u210 u211 u212 u213 u214 u215 u216 u217 u218 u219 u220 u221 u222 u223 u224 u225 u226 u227 u228 u229 u230 u231 u232 u233 u234 u235 u236:Value}:Code.wp Tryz.prog (ez 9 Tryz.caseCode) (bodyPost Tryz.prog Tryz.f10 fun e w'=> ∃(hh nb:Nat) (x:aq),e= .returned (.agg x.cells.toArray)∧aT w' x∧fD hh nb x∧bT x=0∧dv (fun b=>V.heap.size≤b) x∧Ext V w') {tmps:= #[u0,u1,.pointer (some ⟨R,0,none⟩),.pointer (some ⟨T,0,none⟩),.pointer (some ⟨X,0,none⟩),u5,u6,.int .i64 (nb:Int),u8,u9,u10,u11,u12,u13,u14,u15,u16,u17,u18,u19,u20,u21,u22,u23,u24,u25,u26,u27,u28,u29,u30,u31,u32,u33,u34,u35,u36,u37,u38,u39,u40,u41,u42,u43,u44,u45,u46,u47,u48,u49,u50,u51,u52,u53,u54,u55,u56,u57,u58,u59,u60,u61,u62,u63,u64,u65,u66,u67,u68,u69,u70,u71,u72,u73,u74,u75,u76,u77,u78,u79,u80,u81,u82,u83,u84,u85,u86,u87,u88,u89,u90,u91,u92,u93,u94,u95,u96,u97,u98,u99,u100,u101,u102,u103,u104,u105,u106,u107,u108,u109,u110,u111,u112,u113,u114,u115,u116,u117,u118,u119,u120,u121,u122,u123,u124,u125,u126,u127,u128,u129,u130,u131,u132,u133,u134,u135,u136,u137,u138,u139,u140,u141,u142,u143,u144,u145,u146,u147,u148,u149,u150,u151,u152,u153,u154,u155,u156,u157,u158,u159,u160,u161,u162,u163,u164,u165,u166,u167,u168,u169,u170,u171,u172,u173,u174,u175,u176,u177,u178,u179,u180,u181,u182,u183,u184,u185,u186,u187,u188,u189,u190,u191,u192,u193,u194,u195,u196,u197,u198,u199,u200,u201,u202,u203,u204,u205,u206,u207,u208,u209,u210,u211,u212,u213,u214,u215,u216,u217,u218,u219,u220,u221,u222,u223,u224,u225,u226,u227,u228,u229,u230,u231,u232,u233,u234,u235,u236],defers:= []} WQ:=by
 have eQ:=ae (eu.of V V T a c l m_.out.1 (Ext.refl V) HL.out);have C3:=ae (fun U (hx:Ext V U) (hU:bn U T a c l) (m:Int) (hm:0<m) (rk:m<1000000)=>jO V U T a c l hh m m_.out.1 hx HL.out hU (by have:=HH.out;omega) hm rk);conv=>arg 2;dsimp only [Tryz.caseCode,Tryz.f10,ez,Option.getD]
 go_wp2_with fail
 refine (eQ.out WQ 3 (HC.out.ext.but T) HC.out.tape (by decide) (by decide)).mono ?_;rintro e WR ⟨q,rfl,G4,hT,hx⟩;replace HC:=ae (HC.out.next hT hx);clear hT hx G4;go_upto_if 139 with fail
 go_cut [] (fun wx=> ∃(ss:List bp) (sa:Option Addr) (sc:Nat),ss.length≤1∧(∀s∈ss,lF s nb)∧CW V T R X a c l [i64 (hh:Int),.slice rb hh rc,.slice ba nb bc,.slice la ls.length lc,.slice ua us.length uc,.slice sa ss.length sc,.slice none 0 0,.slice none 0 0] (⟨hh,rb,rc,rs,ba,bc,bs,la,lc,ls,ua,uc,us,sa,sc,ss,none,0,[],none,0,[]⟩:aq) wx)
 case first=>
  as_aux_lemma=>
   rcases Bool.eq_false_or_eq_true (q==2)with hq|hq
   ·go_wp2_with fail
    refine (eQ.out WR (nb:Int) (HC.out.ext.but T) HC.out.tape (by have:=iB.out;omega) (by have:=iB.out;omega)).mono ?_;rintro e Z1 ⟨Ie,rfl,zV,hT,hx⟩;replace HC:=ae (HC.out.next hT hx);have zX:=ae zV;clear hT hx zV;go_wp2_with fail
    refine (eQ.out Z1 20 (HC.out.ext.but T) HC.out.tape (by decide) (by decide)).mono ?_;rintro e Z2 ⟨cp,rfl,Si,hT,hx⟩;replace HC:=ae (HC.out.next hT hx);have Cb:=ae Si;clear hT hx Si;go_wp2_with fail
    refine (eQ.out Z2 8 (HC.out.ext.but T) HC.out.tape (by decide) (by decide)).mono ?_;rintro e Z3 ⟨ch,rfl,Sj,hT,hx⟩;replace HC:=ae (HC.out.next hT hx);have Sk:=ae Sj;clear hT hx Sj;go_wp2_with fail
    refine (eQ.out Z3 8 (HC.out.ext.but T) HC.out.tape (by decide) (by decide)).mono ?_;rintro e Z4 ⟨dc,rfl,Sl,hT,hx⟩;replace HC:=ae (HC.out.next hT hx);have Sm:=ae Sl;clear hT hx Sl;go_wp2_with fail
    refine (eQ.out Z4 4 (HC.out.ext.but T) HC.out.tape (by decide) (by decide)).mono ?_;rintro e Z5 ⟨ef,rfl,Sn,hT,hx⟩;replace HC:=ae (HC.out.next hT hx);have NN:=ae Sn;clear hT hx Sn;have q1:IntKind.i64.wrap (1+ef)=1+ef:=by rw [IntKind.wrap_i64];have:=NN.out;omega
    simp only [];first|go_values|go_skip|go_guarded|go_step|go_upon
    first|go_values|go_skip|go_guarded|go_step|go_upon
    first|go_values|go_skip|go_guarded|go_step|go_upon
    first|go_values|go_skip|go_guarded|go_step|go_upon
    first|go_values|go_skip|go_guarded|go_step|go_upon
    first|go_values|go_skip|go_guarded|go_step|go_upon
    first|go_values|go_skip|go_guarded|go_step|go_upon
    first|go_values|go_skip|go_guarded|go_step|go_upon
    refine pH 82 _ rfl [(0,.string {data:= #[115,48]}),(1,i64 Ie),(2,i64 cp),(5,i64 ch),(6,i64 dc),(7,.agg #[i64 (1+ef),i64 4])] [.string {data:= #[115,48]},i64 Ie,i64 cp,i64 0,i64 0,i64 ch,i64 dc,i64 (1+ef),i64 4] (by go_simp) (by kernel_rfl) ?_;go_upto_region 27 with(refine bD rfl 82 _ _ rfl xG.cells [.string {data:= #[115,48]},i64 Ie,i64 cp,i64 0,i64 0,i64 ch,i64 dc,i64 (1+ef),i64 4] rfl rfl (by kernel_rfl) rfl rfl ?_)
    clear q1;obtain ⟨WS,ZR,xs,-,AS⟩:=aB Z5 82 [.string {data:= #[115,48]},i64 Ie,i64 cp,i64 0,i64 0,i64 ch,i64 dc,i64 (1+ef),i64 4];rw [show Z5.alloc (.cells #[.string {data:= #[115,48]},i64 Ie,i64 cp,i64 0,i64 0,i64 ch,i64 dc,i64 (1+ef),i64 4] 82)=WS from ZR.symm];obtain ⟨B,hB⟩: ∃B,B=Z5.heap.size:=⟨_,rfl⟩;rw [←hB]at AS⊢;have kp:Hid (dv (fun b=>b≠B) (⟨hh,rb,rc,rs,ba,bc,bs,la,lc,ls,ua,uc,us,none,0,[],none,0,[],none,0,[]⟩:aq)):=HC.out.bl.mono fun b hb=>by rw [hB];omega
    have E4:Hid (B≠T):=by(have:=HC.out.tape.lt;show _≠_;omega)
    have ZT:Hid (X<B):=by(have:=HC.out.bK.lt;show _<_;omega)
    have HB:=ae AS;replace HC:=ae (HC.out.grow xs);clear ZR AS xs hB;have q3:IntKind.i64.wrap (cp+1)=cp+1:=by rw [IntKind.wrap_i64];have:=Cb.out;omega
    refine ay (fun w'=>w'.cell? ⟨B,2,none⟩=some (i64 cp)) (fun w'=>True) (fun i=>i==11||i==13) (by kernel_rfl) ((HB.out.cell 2).trans rfl) (trivial) (fun ar ah=> ?_);refine av 0 (.pointer (some ⟨T,0,none⟩)) rfl ar ah ?_;simp only [Zqa,Zqb,Zqc,List.setIfInBounds_toArray,Zqd,Zqe,Act.put];refine av 1 (.pointer (some ⟨B,2,none⟩)) rfl ar ah ?_;simp only [Zqa,Zqb,Zqc,List.setIfInBounds_toArray,Zqd,Zqe,Act.put];refine av 2 (i64 cp) rfl ar ah ?_;simp only [Zqa,Zqb,Zqc,List.setIfInBounds_toArray,Zqd,Zqe,Act.put];refine av 3 (i64 (cp+1)) rfl ar ah ?_;simp only [Zqa,Zqb,Zqc,List.setIfInBounds_toArray,Zqd,Zqe,Act.put];refine av 5 (.pointer (some ⟨T,0,none⟩)) rfl ar ah ?_;simp only [Zqa,Zqb,Zqc,List.setIfInBounds_toArray,Zqd,Zqe,Act.put];refine av 6 (.pointer (some ⟨B,2,none⟩)) rfl ar ah ?_;simp only [Zqa,Zqb,Zqc,List.setIfInBounds_toArray,Zqd,Zqe,Act.put];refine av 7 (i64 cp) rfl ar ah ?_;simp only [Zqa,Zqb,Zqc,List.setIfInBounds_toArray,Zqd,Zqe,Act.put];refine av 8 (i64 (cp+1)) rfl ar ah ?_;simp only [Zqa,Zqb,Zqc,List.setIfInBounds_toArray,Zqd,Zqe,Act.put];replace HC:=ae (HC.out.grow (Ext.refl WS).drew);replace HB:=ae (HB.out.ext (Ext.refl WS).drew);generalize WS.drew=Y1 at*;refine cG 4 rfl (fun Kc hK=> ?_);go_simp;refine (eQ.out Y1 (cp+1) (HC.out.ext.but T) HC.out.tape (by have:=Cb.out;omega) (by have:=Cb.out;omega)).mono ?_;rintro e Y2 ⟨Sp,rfl,Lh,hT,hx⟩;replace HC:=ae (HC.out.next hT hx);replace HB:=ae (HB.out.but hx E4.out);have Li:=ae Lh;clear hT hx Lh;refine hK.out _ _ ((HB.out.cell 2).trans rfl) (trivial) (fun ar ah=> ?_);clear hK Kc;try simp only [Zqa,Zqb,Zqc,List.setIfInBounds_toArray,Zqd,Zqe,Act.put]
    refine av 10 (.pointer (some ⟨B,3,none⟩)) rfl ar ah ?_;simp only [Zqa,Zqb,Zqc,List.setIfInBounds_toArray,Zqd,Zqe,Act.put];refine cG 9 rfl (fun Kc hK=> ?_);go_simp;refine (eQ.out Y2 (cp+1) (HC.out.ext.but T) HC.out.tape (by have:=Cb.out;omega) (by have:=Cb.out;omega)).mono ?_;rintro e Y3 ⟨fin,rfl,Lj,hT,hx⟩;replace HC:=ae (HC.out.next hT hx);replace HB:=ae (HB.out.but hx E4.out);have Lk:=ae Lj;clear hT hx Lj;refine hK.out _ _ ((HB.out.cell 2).trans rfl) (trivial) (fun ar ah=> ?_);clear hK Kc;try simp only [Zqa,Zqb,Zqc,List.setIfInBounds_toArray,Zqd,Zqe,Act.put]
    have d3:=HB.out.cl 3 (i64 0) rfl;have f3:=HB.out.frozen 3;have qf:=ae (HB.out.set 3 (i64 Sp));have uy:=ae (HC.out.but ((ak.refl B Y3).et (o:=3) (v:=i64 Sp)) ZT.out kp.out);refine aZ (rs:= [11]) (by kernel_rfl) (by simp) ?_;refine aD.late rfl (by kernel_rfl) (fun Kc hK=> ?_) aD.nil;go_simp;refine hK.out _ _ ((qf.out.cell 2).trans rfl) (fun ar=> ?_);clear hK Kc;try simp only [Zqa,Zqb,Zqc,List.setIfInBounds_toArray,Zqd,Zqe,Act.put]
    clear HB HC d3 f3;have HB:=qf;have HC:=uy;clear qf uy;generalize (Y3.setCell ⟨B,3,none⟩ (i64 Sp))=Y4 at*;refine jZ (i:=12) (v:= .pointer (some ⟨B,4,none⟩)) rfl (by kernel_rfl) (by kernel_rfl) (by kernel_rfl) (by kernel_rfl) (fun _ _ _ h=>h) (Or.inl ⟨by rfl,fun w hSw=>by(have e0:=hSw;go_simp)⟩) ar (Or.inr (by kernel_rfl)) ?_;try simp only [Zqa,Zqb,Zqc,List.setIfInBounds_toArray,Zqd,Zqe,Act.put]
    have d4:=HB.out.cl 4 (i64 0) rfl;have f4:=HB.out.frozen 4;have qf:=ae (HB.out.set 4 (i64 fin));have uy:=ae (HC.out.but ((ak.refl B Y4).et (o:=4) (v:=i64 fin)) ZT.out kp.out);refine aZ (rs:= [13]) (by kernel_rfl) (by simp) ?_;refine aD.late rfl (by kernel_rfl) (fun Kc hK=> ?_) aD.nil;go_simp;refine hK.out _ _ ((qf.out.cell 2).trans rfl) (fun ar=> ?_);clear hK Kc;try simp only [Zqa,Zqb,Zqc,List.setIfInBounds_toArray,Zqd,Zqe,Act.put]
    clear HB HC d4 f4;have HB:=qf;have HC:=uy;clear qf uy;generalize (Y4.setCell ⟨B,4,none⟩ (i64 fin))=Y5 at*;refine ax (by kernel_rfl) ?_ _;clear ar;clear q3;obtain ⟨x,hx⟩: ∃x:bp,x=⟨{data:= #[115,48]},Ie,cp,Sp,fin,ch,dc,1+ef,4⟩:=⟨_,rfl⟩;have Sg: [.string {data:= #[115,48]},i64 Ie,i64 cp,i64 Sp,i64 fin,i64 ch,i64 dc,i64 (1+ef),i64 4]=x.cells:=by rw [hx];rfl
    have HM:Hid (lF x nb):=by
     have h1:=zX.out;have h2:=Cb.out;have h3:=Sk.out;have h4:=Sm.out;have h5:=NN.out;have h6:=Li.out;have h7:=Lk.out
     rw [hx];exact ⟨rfl,h1,h2,⟨h6.1,by simp only;omega⟩,⟨h7.1,by simp only;omega⟩,h3,h4,by simp only;omega,by simp only;omega,rfl⟩
    replace HB:Hid (aG Y5 B 82 x.cells):=by rw [←Sg];exact HB.out
    clear hx Sg zX Cb Sk Sm NN Li Lk;obtain ⟨F,hF⟩: ∃F,F=Y5.heap.size:=⟨_,rfl⟩
    have HP:Hid (gC V T R X F a c l [i64 (hh:Int),.slice rb hh rc,.slice ba nb bc,.slice la ls.length lc,.slice ua us.length uc,.slice none 0 0,.slice none 0 0,.slice none 0 0] (⟨hh,rb,rc,rs,ba,bc,bs,la,lc,ls,ua,uc,us,none,0,[],none,0,[],none,0,[]⟩:aq) 82 9 none 0 [] [] [] Y5):=by
     rw [hF];exact ⟨HC.out,aH.nil _ _ _ _,fun s hs=>absurd hs (by simp),fun s hs=>absurd hs (by simp),HC.out.bl.mono fun b hb=>hb.2,Nat.le_refl _,HC.out.bK.lt⟩
    clear HC hF;have c5:Y5.cell? ⟨X,5,none⟩=some (.slice none 0 0):=(HP.out.cw.bK.cell 5).trans rfl;have xk: ∀j v,x.cells[j]?=some v→Y5.cell? ((⟨B,0,none⟩:Addr).add j)=some v:=fun j v hj=>by rw [dP,HB.out.cell j];exact hj
    go_wp2_with (first|(refine aQ rfl 82 _ rfl ⟨B,0,none⟩ rfl x.cells _ xk rfl rfl rfl ?_)|(
     refine gL rfl 28 _ rfl 82 (.agg xG.cells.toArray) 9 80 Tryz.underlying28 Tryz.info_store (by decide) (by decide) x.cells rfl rfl ?_;intro Y6 kV x6;have Sq:=ae (HP.out.grow x6);have n_:=ae kV;have d5:Y6.cell? ⟨X,5,none⟩=some (.slice none 0 0):=(Sq.out.cw.bK.cell 5).trans rfl;clear kV x6 HP c5 xk HB)|(
     at_builtin
     refine aV _ rfl _ _ 28 rfl F 82 (.agg xG.cells.toArray) 9 80 Tryz.underlying28 Tryz.info_store rfl (by decide) (.slice none 0 0) 0 [] rfl ?c1 (some ⟨Y5.heap.size,0,none⟩) 1 1 x.cells rfl rfl ?c2 ?c3 ?c4 ?c5 (by decide) ?c6 ?_
     case c1=>exact Sq.out.own.own
     case c2=>exact fun _=>⟨_,rfl,n_.out.adds⟩
     case c3=>exact fun u hu=>List.all_eq_true.1 (show x.cells.all (·.oneCell')=true from rfl) u hu
     case c4=>intro e;cases e
     case c5=>omega
     case c6=>exact Sq.out.size
     intro v1 w5 ho he hb hz hv;obtain ⟨g2,k2,rfl,c5',f5',Sh⟩:=B6 Sq.out (HM.out.x_ (by have:=iB.out;omega)) ho.out he.out hb.out hz.out hv.out;have uy:=ae Sh;clear Sq n_ d5 ho he hb hz hv Sh))
    go_meet
    exact ⟨[x],g2,k2,Nat.le_refl _,fun s hs=>by rw [List.mem_singleton]at hs;rw [hs];exact HM.out,uy.out⟩
   ·go_wp2_with fail
    go_meet
    exact ⟨[],none,0,Nat.zero_le _,fun s hs=>absurd hs (by simp),HC.out⟩
 case rest=>
  obtain ⟨ss,sa,sc,CM,hsm,hC⟩:=hcut;generalize wc=WT at*;clear HC;have HC:=ae hC;have vU:=ae (And.intro CM hsm)
  clear hC CM hsm;go_step
  exact Ic V T R X a c l hh nb rc bc rb ba rs bs ls la lc us ua uc ss sa sc HL m_ HH Ca iB zU kp qL pX Ia rP vU WT HC
end Go.Proofs.YtkpngkdgphojlaaGreat
