/- Texts of the proof. -/
import Derived.Test.YtkpngkdgphojlaaGreatCf9
set_option linter.all false
set_option maxHeartbeats 2000000
set_option maxRecDepth 100000
namespace Go.Proofs.YtkpngkdgphojlaaGreat
open Go.Proofs.Tryz
open Go.RowKit
theorem GL (w0 V:World) (K:Nat) (c:ai) (s:St) (hK:w0.heap.size≤K) (hV:Ext w0 V) (hc:a_ w0 c) (hn:c.outs.length≤1000000) (h:iN V K c s):
 Calls prog 84 #[.pointer (some ⟨K,0,none⟩)] V fun e' w'=>mq V K c (s.outs c) e' w':=by
 have KF:=h.lt;have hr:=hc.outs;have hle:=hr.le;have dQ:=hr.cap
 rw [List.length_map]at hle;have hen: ∀args w,(callFunc 145 args).run prog w= .ok (.enter 145 args) w:=enters_of func145 (by kernel_rfl) rfl;have IA:=ae hen;have HV:=ae hV;have f_:=ae hc;have HH:=ae h;have df:=ae hK
 unfold St.outs;clear hr h hc hV hen hK;go_enter func84,ntmps84
 go_upto_region 1 with fail
 obtain ⟨W,hW,x0,Z0,A0⟩:=aX V 141 [.pointer (some ⟨K,0,none⟩)];rw [show V.alloc (.cells #[.pointer (some ⟨K,0,none⟩)] 141)=W from hW.symm];clear hW;obtain ⟨B,hB⟩: ∃B,B=V.heap.size:=⟨_,rfl⟩;rw [←hB]at A0⊢;have gQ:B≠K:=by omega
 have kb:W.cell? ⟨B,0,none⟩=some (.pointer (some ⟨K,0,none⟩)):=(A0.cell 0).trans rfl;have XZ:=HH.o.ext x0;obtain ⟨k0,k1,k2,k3,k4,k5,k6,k7⟩:=eC XZ;have Ax:=ae A0;have SK:=ae XZ;have X0:=ae (x0.but K)
 have EN:=ae hB;clear A0 XZ Z0 x0 hB HH;go_wp2_with fail
 clear kb k0 k1 k2 k3 k4 k5 k6 k7;go_loopw [12] (fun ii wr=> ∃i:Nat,i≤c.outs.length∧iN wr K c (St.jb c s i)∧ar K V wr∧aQ wr B 141 [.pointer (some ⟨K,0,none⟩)]∧ii= .int .i64 i) (fun ii _=>c.outs.length-(intOf ii).toNat)
 case atStart=>exact ⟨0,Nat.zero_le _,SK.o,X0.o,Ax.o,rfl⟩
 case round=>
  obtain ⟨i,hi,hk,hx,hA,rfl⟩:=hrel;clear Ax SK X0;by_cases hlt:i<c.outs.length
  ·have hE:=hx.ext HV.o df.o
   have sG:=ae (St.Bc c s i hlt);obtain ⟨b,o,ha,c0,c1,c2,c3⟩:=(f_.o.outs.ext hE).outs i hlt;have jK:=f_.o.o c.outs[i] (List.getElem_mem hlt);generalize St.jb c s i=s0 at*;obtain ⟨prev,Dc⟩: ∃prev,prev=(c.outs.take i).map aY.name:=⟨_,rfl⟩;rw [←Dc]at sG;have AZ:prev.length=i:=by subst Dc;simp;omega
   have Nd: ∀j (hj:j<prev.length),∃h:j<c.outs.length,prev[j]=c.outs[j].name:=fun j hj=>⟨by omega,by subst Dc;simp⟩;obtain ⟨x,uj⟩: ∃x,x=c.outs[i]:=⟨_,rfl⟩;rw [←uj]at c0 c1 c2 c3 jK sG;have jf:=ae jK;have Ar:=ae Nd;have yb:=ae AZ
   have LF:=ae hk;have HX:=ae hx;have HE:=ae hE;have HA:=ae hA
   have kb:wr.cell? ⟨B,0,none⟩=some (.pointer (some ⟨K,0,none⟩)):=(hA.cell 0).trans rfl;have jS:(0:Int)≤(i:Int):=by omega
   have jI:(i:Int)<(c.outs.length:Int):=by omega
   clear jK Nd AZ Dc uj hk hx hE hA;rw [ha];go_upto_region 4 with fail
   obtain ⟨W1,hW1,x1,Z1,A1⟩:=aX wr 87 x.cells;rw [show wr.alloc (.cells #[.string x.name,.slice x.la x.lines.length x.lc,.bool x.bI,.slice x.ma x.moves.length x.mc] 87)=W1 from hW1.symm];clear hW1 c0 c1 c2 c3;obtain ⟨E,nP⟩: ∃E,E=wr.heap.size:=⟨_,rfl⟩;rw [←nP]at A1⊢;have mC:E≠K:=by have:=LF.o.lt;omega
   have hK0:=LF.o.ext x1;have mi:=ae A1;have Az:=ae (HA.o.ext x1);have Jh:ar K V W1:=HX.o.trans (x1.but K);have OM:Ext w0 W1:=HE.o.trans x1;clear nP A1 Z1 x1 LF HA kb;have kb:=Az.o.cl 0 (.pointer (some ⟨K,0,none⟩)) rfl;obtain ⟨c0,c1,c2,c3⟩:=aY.at mi.o;go_wp2_with fail
   refine (AQ W1 K c s0 6 i hK0).mono ?_;rintro e W2 ⟨rfl,X2,hx1⟩;obtain ⟨s1,hs1⟩: ∃s',s'=(s0.at 6 i):=⟨_,rfl⟩;rw [←hs1]at X2;have zi:=ae hs1;clear hs1;clear kb c0 c1 c2 c3;have mi:=ae (mi.o.but hx1 mC);have Az:=ae (Az.o.but hx1 gQ)
   have Ji:ar K V W2:=Jh.trans hx1;have OM:Ext w0 W2:=hx1.ext OM df.o;clear hx1 Jh hK0;have kb:=Az.o.cl 0 (.pointer (some ⟨K,0,none⟩)) rfl;obtain ⟨c0,c1,c2,c3⟩:=aY.at mi.o
   have Db:s1.err=0→s1.idx=(prev.length:Int):=fun h0=>by
    rw [yb.o];rw [zi.o]at h0⊢;unfold St.at at h0⊢;split
    ·rfl
    ·rename_i hne;rw [if_neg hne]at h0;exact absurd h0 hne
   have HN:=ae (sB W2 K c s1 x.name jf.o.1 prev 145 B Db (by rw [yb.o];omega) IA.o (fun V' s' j hj pU EM=>by
    obtain ⟨hj',ej⟩:=Ar.o j hj;rw [ej];exact K_ w0 V' K B c s' j df.o (pU.ext OM df.o) f_.o EM (cK ((Az.o.cell 0).trans rfl) pU gQ) hj') X2)
   clear Db;go_wp2_with fail
   refine HN.o.mono ?_;rintro e W3 ⟨rfl,hK2,hx2⟩;obtain ⟨s2,hs2⟩: ∃s',s'=(s1.name x.name prev):=⟨_,rfl⟩;rw [←hs2]at hK2;have Aw:=ae hs2;clear hs2;clear kb c0 c1 c2 c3;have mi:=ae (mi.o.but hx2 mC);have Az:=ae (Az.o.but hx2 gQ)
   have M5:ar K V W3:=Ji.trans hx2;have OM:Ext w0 W3:=hx2.ext OM df.o;clear hx2 Ji X2;obtain ⟨s3,hs3⟩: ∃s',s'=s2.need (decide (x.lines.length=1)||decide (x.lines.length=2)) 1 4:=⟨_,rfl⟩;have Qv:=ae hs3;have ve:=ae hK2;have kX:=ae M5;have gV:=ae OM
   have Bf:Hid (c.aq.length≤9223372036854775807):=by
    show _≤_;have h1:=f_.o.aq.le;have h2:=f_.o.aq.cap;rw [List.length_map]at h1;omega
   have nS:Hid (c.lines.length≤9223372036854775807):=by
    show _≤_;have h1:=f_.o.lines.le;have h2:=f_.o.lines.cap;rw [List.length_map]at h1;omega
   clear hs3 hK2 M5 OM;go_upto_region 6 with fail
   go_cut [] (fun wx=>iN wx K c s3∧ar K W3 wx∧aQ wx E 87 x.cells∧aQ wx B 141 [.pointer (some ⟨K,0,none⟩)])
   case first=>
    as_aux_lemma=>
     have kb:=Az.o.cl 0 (.pointer (some ⟨K,0,none⟩)) rfl;obtain ⟨c0,c1,c2,c3⟩:=aY.at mi.o
     have Re:Hid (x.lines.length≤9223372036854775807):=by
      show _≤_;have h1:=jf.o.2.1.le;have h2:=jf.o.2.1.cap;omega
     have HN:Hid (∀ok,ok=(decide (x.lines.length=1)||decide (x.lines.length=2))→Calls prog 134 #[.pointer (some ⟨K,0,none⟩),.bool ok,i64 1,i64 4] W3 fun e' w'=>mq W3 K c s3 e' w'):=fun ok pY=>by
      have h5:=eT W3 K c s2 ok 1 4 ve.o;rw [pY,←Qv.o]at h5;rw [pY];exact h5
     by_cases q:x.lines.length=1
     ·have t:((x.lines.length:Int)==1)=true:=by rw [q];rfl
      have HQ:Hid (true=(decide (x.lines.length=1)||decide (x.lines.length=2))):=by show _=_;rw [q];simp
      clear q;go_wp2_with fail
      refine (HN.o true HQ.o).mono ?_;rintro e w2 ⟨rfl,hk,hx⟩;have HR:=ae (And.intro hk (And.intro hx (And.intro (mi.o.but hx mC) (Az.o.but hx gQ))));clear hk hx c0 c1 c2 c3 t kb;go_wp2_with fail
      go_meet
      exact HR.o
     ·have t:((x.lines.length:Int)==1)=false:=by rw [beq_eq_false_iff_ne];omega
      have HQ:Hid (((x.lines.length:Int)==2)=(decide (x.lines.length=1)||decide (x.lines.length=2))):=by
       show _=_;rw [decide_eq_false q,Bool.false_or,Bool.eq_iff_iff,beq_iff_eq,decide_eq_true_eq];omega
      clear q;go_wp2_with fail
      refine (HN.o ((x.lines.length:Int)==2) HQ.o).mono ?_;rintro e w2 ⟨rfl,hk,hx⟩;have HR:=ae (And.intro hk (And.intro hx (And.intro (mi.o.but hx mC) (Az.o.but hx gQ))));clear hk hx c0 c1 c2 c3 t kb;go_wp2_with fail
      go_meet
      exact HR.o
   case rest=>
    obtain ⟨hk,hx,hE',mD⟩:=hcut;generalize wc=W4 at*;have Bg:=ae hk;have mi:=ae hE';have Az:=ae mD;have qI:=ae (kX.o.trans hx);have ad1:=ae (hx.ext gV.o df.o)
    clear hk hx hE' mD kX ve;obtain ⟨-,-,-,Ra,-⟩:=oh Bg.o;have kb:=Az.o.cl 0 (.pointer (some ⟨K,0,none⟩)) rfl;obtain ⟨c0,c1,c2,c3⟩:=aY.at mi.o;by_cases h0:s3.err=0
    rotate_left
    ·have t1:(s3.err !=0)=true:=by simpa using h0
     have h1:St.jb c s (i+1)=s3:=by
      rw [sG.o];unfold St.lO
      rw [←zi.o,←Aw.o,←Qv.o,if_pos h0]
     have h2:St.jb c s c.outs.length=s3:=by
      rw [St.Dp c s (i+1) c.outs.length (by omega) (by rw [h1];exact h0),h1]
     have HR:Hid (iN W4 K c (St.jb c s c.outs.length)):=by show iN _ _ _ _;rw [h2];exact Bg.o
     clear h0 h1 h2;go_wp2_with fail
     exact bodyPost_ret (v:= .tuple #[]) (by simp [results,results84,go_sem]) rfl ⟨rfl,HR.o,qI.o⟩
    have t1:(s3.err !=0)=false:=by simpa using h0
    have xm:Hid (St.jb c s (i+1)=((s3.zo c.lines.length 1 x.lines).need (iP x.lines) 1 11).moves c x):=by
     show _=_;rw [sG.o];unfold St.lO
     rw [←zi.o,←Aw.o,←Qv.o,if_neg (fun e=>e h0)]
    have ad2:=jf.o.2.1.le;have abv:=jf.o.2.1.cap
    clear h0 sG zi Aw Qv;obtain ⟨wo,OJ⟩: ∃wo:World,wo=wr:=⟨_,rfl⟩;subst OJ;go_wp2_with fail
    clear kb c0 c1 c2 c3 Ra t1;go_loopw [45] (fun jj wl=> ∃j:Nat,j≤x.lines.length∧iN wl K c (s3.zo c.lines.length 1 (x.lines.take j))∧ar K V wl∧aQ wl E 87 x.cells∧aQ wl B 141 [.pointer (some ⟨K,0,none⟩)]∧jj= .int .i64 j) (fun jj _=>x.lines.length-(intOf jj).toNat)
    case atStart=>exact ⟨0,Nat.zero_le _,Bg.o,qI.o,mi.o,Az.o,rfl⟩
    case round=>
     obtain ⟨j,hj,hk,hx,hA,hB,rfl⟩:=hrel;clear Bg qI mi Az;by_cases yY:j<x.lines.length
     ·have hE:=hx.ext HV.o df.o
      obtain ⟨lb,lo,OO,cl⟩:=(jf.o.2.1.ext hE).cell j yY;have HT:=ae (St.II s3 (c.lines.length:Int) 1 x.lines j yY);generalize s3.zo (c.lines.length:Int) 1 (x.lines.take j)=s4 at*;obtain ⟨z,hz⟩: ∃z,z=x.lines[j]:=⟨_,rfl⟩;rw [←hz]at cl HT;have OL:=ae hk;have qI:=ae hx;have um:=ae hA;have Vq:=ae hB
      have NZ:(0:Int)≤(j:Int):=by omega
      have N1:(j:Int)<(x.lines.length:Int):=by omega
      have kb:wr.cell? ⟨B,0,none⟩=some (.pointer (some ⟨K,0,none⟩)):=(hB.cell 0).trans rfl;obtain ⟨-,-,-,k3,-⟩:=eC hk;have pJ:=nS.o;clear hk hx hA hB hE hz;rw [OO];rcases Bool.eq_false_or_eq_true (decide (0≤z))with hp|hp
      ·go_wp2_with fail
       refine aL (fun w'=>w'.cell? ⟨B,0,none⟩=some (.pointer (some ⟨K,0,none⟩))∧w'.cell? ⟨K,3,none⟩=some (.slice c.la c.lines.length c.lc)) (fun w'=>True) (fun i=>false) (by kernel_rfl) (⟨kb,k3⟩) (trivial) (fun ay ah=> ?_);refine aF 0 ay ah ?_;refine aF 1 ay ah ?_ (v:=i64 z);refine aF 2 ay ah ?_;refine aF 3 ay ah ?_;refine aF 4 ay ah ?_ (v:=i64 z);refine aF 5 ay ah ?_;refine aF 6 ay ah ?_;refine aF 7 ay ah ?_;refine aF 8 ay ah ?_;refine aF 9 ay ah ?_;refine aF 10 ay ah ?_ (v:= .int .i64 (c.lines.length:Int));refine aF 11 ay ah ?_ (v:= .bool (decide (z<(c.lines.length:Int))));refine aF 12 ay ah ?_ (v:= .bool (decide (z<(c.lines.length:Int))));refine fp 13 rfl (fun Kc hK=> ?_);go_simp;refine (eT wr.drew K c s4 (decide (z<(c.lines.length:Int))) 1 12 (OL.o.ext (Ext.refl _).drew)).mono ?_;rintro e W5 ⟨rfl,yl,dY⟩;refine hK.o _ _ (⟨cK (ak (Ext.refl wr).drew kb) dY gQ,(eC yl).2.2.2.1⟩) (trivial) (fun ay ah=> ?_);clear hK Kc;try simp only [sS]
       refine aD (by kernel_rfl) ?_ _;clear ay ah;have zE:iN W5 K c (s4.need (decide (0≤z)&&decide (z<(c.lines.length:Int))) 1 12):=by rw [hp];simpa using yl
       have jB:ar K wr W5:=((Ext.refl wr).drew.but K).trans dY;have HR:=ae (And.intro zE (And.intro (qI.o.trans jB) (And.intro (um.o.but jB mC) (Vq.o.but jB gQ))));clear yl dY zE jB hp pJ k3 kb;go_wp2_with fail
       exact ⟨⟨j+1,by omega,by rw [HT.o];exact HR.o.1,HR.o.2.1,HR.o.2.2.1,HR.o.2.2.2,by go_num⟩,by simp only [intOf];omega⟩
      ·go_wp2_with fail
       refine aL (fun w'=>w'.cell? ⟨B,0,none⟩=some (.pointer (some ⟨K,0,none⟩))∧w'.cell? ⟨K,3,none⟩=some (.slice c.la c.lines.length c.lc)) (fun w'=>True) (fun i=>false) (by kernel_rfl) (⟨kb,k3⟩) (trivial) (fun ay ah=> ?_);refine aF 0 ay ah ?_;refine aF 1 ay ah ?_ (v:=i64 z);refine aF 2 ay ah ?_;refine aF 3 ay ah ?_;refine AP 4 ay ah ?_;refine AP 5 ay ah ?_;refine AP 6 ay ah ?_;refine AP 7 ay ah ?_;refine AP 8 ay ah ?_;refine AP 9 ay ah ?_;refine AP 10 ay ah ?_;refine AP 11 ay ah ?_;refine aF 12 ay ah ?_;refine fp 13 rfl (fun Kc hK=> ?_);go_simp;refine (eT wr.drew K c s4 (false) 1 12 (OL.o.ext (Ext.refl _).drew)).mono ?_;rintro e W5 ⟨rfl,yl,dY⟩;refine hK.o _ _ (⟨cK (ak (Ext.refl wr).drew kb) dY gQ,(eC yl).2.2.2.1⟩) (trivial) (fun ay ah=> ?_);clear hK Kc;try simp only [sS]
       refine aD (by kernel_rfl) ?_ _;clear ay ah;have zE:iN W5 K c (s4.need (decide (0≤z)&&decide (z<(c.lines.length:Int))) 1 12):=by rw [hp];simpa using yl
       have jB:ar K wr W5:=((Ext.refl wr).drew.but K).trans dY;have HR:=ae (And.intro zE (And.intro (qI.o.trans jB) (And.intro (um.o.but jB mC) (Vq.o.but jB gQ))));clear yl dY zE jB hp pJ k3 kb;go_wp2_with fail
       exact ⟨⟨j+1,by omega,by rw [HT.o];exact HR.o.1,HR.o.2.1,HR.o.2.2.1,HR.o.2.2.2,by go_num⟩,by simp only [intOf];omega⟩
     ·obtain rfl:j=x.lines.length:=by omega
      rw [List.take_length]at hk;obtain ⟨s4,AD⟩: ∃s',s'=s3.zo (c.lines.length:Int) 1 x.lines:=⟨_,rfl⟩;rw [←AD]at hk;have zF:=xm.o;rw [←AD]at zF;have xm:=ae zF;have OL:=ae hk;have qI:=ae hx;have um:=ae hA;have Vq:=ae hB
      have SJ:=ae (hx.ext HV.o df.o);have kb:wr.cell? ⟨B,0,none⟩=some (.pointer (some ⟨K,0,none⟩)):=(hB.cell 0).trans rfl;have e1:wr.cell? ⟨E,1,none⟩=some (.slice x.la x.lines.length x.lc):=(hA.cell 1).trans rfl;clear hk hx hA hB AD zF;go_wp2_with fail
      refine aL (fun w'=>w'.cell? ⟨B,0,none⟩=some (.pointer (some ⟨K,0,none⟩))∧w'.cell? ⟨E,1,none⟩=some (.slice x.la x.lines.length x.lc)) (fun w'=>True) (fun i=>false) (by kernel_rfl) (⟨kb,e1⟩) (trivial) (fun ay ah=> ?_);refine aF 0 ay ah ?_;refine aF 1 ay ah ?_;refine aF 2 ay ah ?_;refine fp 3 rfl (fun Kc hK=> ?_);go_simp;refine (mX wr.drew x.la x.lc x.lines (jf.o.2.1.ext (SJ.o.trans (Ext.refl _).drew))).mono ?_;rintro e z1 ⟨rfl,xz⟩;refine hK.o _ _ (⟨ak ((Ext.refl wr).drew.trans xz) kb,ak ((Ext.refl wr).drew.trans xz) e1⟩) (trivial) (fun ay ah=> ?_);clear hK Kc;try simp only [sS]
      refine fp 4 rfl (fun Kc hK=> ?_);go_simp;refine (eT z1 K c s4 (iP x.lines) 1 11 (OL.o.ext ((Ext.refl wr).drew.trans xz))).mono ?_;rintro e W5 ⟨rfl,yl,dY⟩;refine hK.o _ _ (⟨cK (ak ((Ext.refl wr).drew.trans xz) kb) dY gQ,cK (ak ((Ext.refl wr).drew.trans xz) e1) dY mC⟩) (trivial) (fun ay ah=> ?_);clear hK Kc;try simp only [sS]
      refine aD (by kernel_rfl) ?_ _;clear ay ah kb e1;obtain ⟨s5,hs5⟩: ∃s',s'=s4.need (iP x.lines) 1 11:=⟨_,rfl⟩;rw [←hs5]at yl;have zF:=xm.o;rw [←hs5]at zF;have xm:=ae zF;have jB:ar K wr W5:=(((Ext.refl wr).drew.trans xz).but K).trans dY;have ym:=ae (um.o.but jB mC);have HB5:=ae (Vq.o.but jB gQ)
      have vp:=ae (qI.o.trans jB);have Vp:=ae (jB.ext SJ.o df.o)
      have UN:=ae (Lk w0 W5 K c s5 x df.o Vp.o Bf.o jf.o.2.2.1 jf.o.2.2.2 yl);have kb:=HB5.o.cl 0 (.pointer (some ⟨K,0,none⟩)) rfl;obtain ⟨c0,c1,c2,c3⟩:=aY.at ym.o;clear hs5 zF dY jB xz yl;go_wp2_with fail
      refine UN.o.mono ?_;rintro e W6 ⟨rfl,zE,jB⟩;have HR:=ae (And.intro zE (And.intro (vp.o.trans jB) (HB5.o.but jB gQ)));clear zE jB kb c0 c1 c2 c3;go_wp2_with fail
      exact ⟨⟨i+1,by omega,by rw [xm.o];exact HR.o.1,HR.o.2.1,HR.o.2.2,by go_num⟩,by simp only [intOf];omega⟩
  ·obtain rfl:i=c.outs.length:=by omega
   go_wp2_with fail
   exact bodyPost_end (v:= .tuple #[]) (by simp [results,results84,go_sem]) rfl ⟨rfl,hk,hx⟩
end Go.Proofs.YtkpngkdgphojlaaGreat
