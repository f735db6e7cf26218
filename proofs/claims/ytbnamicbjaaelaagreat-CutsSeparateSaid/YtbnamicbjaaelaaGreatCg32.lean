/- Texts of the proof. -/
import Derived.Test.YtbnamicbjaaelaaGreatCg19
set_option linter.all false
set_option maxHeartbeats 2000000
set_option maxRecDepth 100000
namespace Go.Proofs.YtbnamicbjaaelaaGreat
open Go.Proofs.Tryz
open Go.RowKit
theorem JF (w0 V:World) (K:Nat) (c:ay) (s:St) (hK:w0.heap.size<=K) (hV:Ext w0 V) (hc:bm w0 c) (hn:c.outs.length<=1000000) (h:iW V K c s):
 Calls prog 73 #[.pointer (some ⟨K,0,none⟩)] V λe' w'=>mI V K c (s.outs c) e' w':=by
 have Nq:=h.lt;have hr:=hc.outs;have hle:=hr.le;have dS:=hr.cap
 rw [List.length_map]at hle;have hen: ∀args w,(callFunc 125 args).run prog w= .ok (.enter 125 args) w:=enters_of func125 ax rfl;have I8:=ah hen;have HV:=ah hV;have eT:=ah hc;have HH:=ah h;have dN:=ah hK
 unfold St.outs;clear hr h hc hV hen hK;go_enter func73,ntmps73
 go_upto_region 1 with fail
 obtain ⟨W,hW,x0,Z0,A0⟩:=aV V 127 [.pointer (some ⟨K,0,none⟩)];rw [show V.alloc (.cells #[.pointer (some ⟨K,0,none⟩)] 127)=W from hW.symm];clear hW;obtain ⟨B,hB⟩: ∃B,B=V.heap.size:=⟨_,rfl⟩;rw [<-hB]at A0⊢;have gZ:B≠K:=ae;have kb:W.cell? ⟨B,0,none⟩=some (.pointer (some ⟨K,0,none⟩)):=(A0.cell 0).trans rfl;have hKW:=HH.o.ext x0;obtain ⟨k0,k1,k2,k3,k4,k5,k6,k7⟩:=eM hKW;have Cm:=ah A0;have Xm:=ah hKW;have X0:=ah (x0.but K)
 have qB:=ah hB;clear A0 hKW Z0 x0 hB HH;go_wp2_with fail
 clear kb k0 k1 k2 k3 k4 k5 k6 k7;go_loopw [12] (λii wr=> ∃i:Nat,i<=c.outs.length/\iW wr K c (St.jh c s i)/\aB K V wr/\aT wr B 127 [.pointer (some ⟨K,0,none⟩)]/\ii= .int .i64 i) (λii _=>c.outs.length-(intOf ii).toNat)
 case atStart=>exact ⟨0,aZ,Xm.o,X0.o,Cm.o,rfl⟩
 case round=>
  obtain ⟨i,hi,hk,hx,hA,rfl⟩:=hrel;clear Cm Xm X0;by_cases hlt:i<c.outs.length
  .have hE:=hx.ext HV.o dN.o
   have se:=ah (St.DC c s i hlt);obtain ⟨b,o,ha,c0,c1,c2,c3⟩:=(eT.o.outs.ext hE).outs i hlt;have jM:=eT.o.o c.outs[i] (List.getElem_mem hlt);generalize St.jh c s i=s0 at*;obtain ⟨prev,FB⟩: ∃prev,prev=(c.outs.take i).map cJ.name:=⟨_,rfl⟩;rw [<-FB]at se;have Dn:prev.length=i:=by subst FB;simp;omega
   have Qj: ∀j (hj:j<prev.length),∃h:j<c.outs.length,prev[j]=c.outs[j].name:=λj hj=>⟨ae,by subst FB;simp⟩;obtain ⟨x,kJ⟩: ∃x,x=c.outs[i]:=⟨_,rfl⟩;rw [<-kJ]at c0 c1 c2 c3 jM se;have jq:=ah jM;have Cl:=ah Qj;have v_:=ah Dn
   have OZ:=ah hk;have HX:=ah hx;have HE:=ah hE;have HA:=ah hA
   have kb:wr.cell? ⟨B,0,none⟩=some (.pointer (some ⟨K,0,none⟩)):=(hA.cell 0).trans rfl;have iM:(0:Int)<=(i:Int):=ae;have iK:(i:Int)<(c.outs.length:Int):=ae;clear jM Qj Dn FB kJ hk hx hE hA;rw [ha];go_upto_region 4 with fail
   obtain ⟨W1,hW1,x1,Z1,A1⟩:=aV wr 75 x.cells;rw [show wr.alloc (.cells #[.string x.name,.slice x.la x.lines.length x.lc,.bool x.cd,.slice x.ma x.moves.length x.mc] 75)=W1 from hW1.symm];clear hW1 c0 c1 c2 c3;obtain ⟨E,mO⟩: ∃E,E=wr.heap.size:=⟨_,rfl⟩;rw [<-mO]at A1⊢;have mN:E≠K:=bA OZ.o.lt;have hK0:=OZ.o.ext x1;have mP:=ah A1;have Cn:=ah (HA.o.ext x1);have KB:aB K V W1:=HX.o.trans (x1.but K);have SA:Ext w0 W1:=HE.o.trans x1;clear mO A1 Z1 x1 OZ HA kb;have kb:=Cn.o.cl 0 (.pointer (some ⟨K,0,none⟩)) rfl;obtain ⟨c0,c1,c2,c3⟩:=cJ.at mP.o;go_wp2_with fail
   refine (Dh W1 K c s0 6 i hK0).mono ?_;rintro e W2 ⟨rfl,hK1,hx1⟩;obtain ⟨s1,hs1⟩: ∃s',s'=(s0.at 6 i):=⟨_,rfl⟩;rw [<-hs1]at hK1;have FO:=ah hs1;clear hs1;clear kb c0 c1 c2 c3;have mP:=ah (mP.o.but hx1 mN);have Cn:=ah (Cn.o.but hx1 gZ)
   have PH:aB K V W2:=KB.trans hx1;have SA:Ext w0 W2:=hx1.ext SA dN.o;clear hx1 KB hK0;have kb:=Cn.o.cl 0 (.pointer (some ⟨K,0,none⟩)) rfl;obtain ⟨c0,c1,c2,c3⟩:=cJ.at mP.o
   have FA:s1.err=0->s1.idx=(prev.length:Int):=λh0=>by
    rw [v_.o];rw [FO.o]at h0⊢;unfold St.at at h0⊢;split
    .rfl
    .rename_i hne;rw [if_neg hne]at h0;exact absurd h0 hne
   have HN:=ah (tX W2 K c s1 x.name jq.o.1 prev 125 B FA (by rw [v_.o];omega) I8.o (λV' s' j hj nY LC=>by
    obtain ⟨hj',ej⟩:=Cl.o j hj;rw [ej];exact Oe w0 V' K B c s' j dN.o (nY.ext SA dN.o) eT.o LC (bU ((Cn.o.cell 0).trans rfl) nY gZ) hj') hK1)
   clear FA;go_wp2_with fail
   refine HN.o.mono ?_;rintro e W3 ⟨rfl,hK2,hx2⟩;obtain ⟨s2,hs2⟩: ∃s',s'=(s1.name x.name prev):=⟨_,rfl⟩;rw [<-hs2]at hK2;have zT:=ah hs2;clear hs2;clear kb c0 c1 c2 c3;have mP:=ah (mP.o.but hx2 mN);have Cn:=ah (Cn.o.but hx2 gZ)
   have P9:aB K V W3:=PH.trans hx2;have SA:Ext w0 W3:=hx2.ext SA dN.o;clear hx2 PH hK1;obtain ⟨s3,hs3⟩: ∃s',s'=s2.need (decide (x.lines.length=1)||decide (x.lines.length=2)) 1 4:=⟨_,rfl⟩;have Ht:=ah hs3;have xn:=ah hK2;have kR:=ah P9;have ig:=ah SA
   have BK:Hid (c.aA.length<=9223372036854775807):=by
    show _<=_;have h1:=eT.o.aA.le;have h2:=eT.o.aA.cap;rw [List.length_map]at h1;omega
   have tC:Hid (c.lines.length<=9223372036854775807):=by
    show _<=_;have h1:=eT.o.lines.le;have h2:=eT.o.lines.cap;rw [List.length_map]at h1;omega
   clear hs3 hK2 P9 SA;go_upto_region 6 with fail
   go_cut [] (λwx=>iW wx K c s3/\aB K W3 wx/\aT wx E 75 x.cells/\aT wx B 127 [.pointer (some ⟨K,0,none⟩)])
   case first=>
    as_aux_lemma=>
     have kb:=Cn.o.cl 0 (.pointer (some ⟨K,0,none⟩)) rfl;obtain ⟨c0,c1,c2,c3⟩:=cJ.at mP.o
     have U':Hid (x.lines.length<=9223372036854775807):=by
      show _<=_;have h1:=jq.o.2.1.le;have h2:=jq.o.2.1.cap;omega
     have HN:Hid (∀ok,ok=(decide (x.lines.length=1)||decide (x.lines.length=2))->Calls prog 114 #[.pointer (some ⟨K,0,none⟩),.bool ok,i64 1,i64 4] W3 λe' w'=>mI W3 K c s3 e' w'):=λok gA=>by
      have h5:=fH W3 K c s2 ok 1 4 xn.o;rw [gA,<-Ht.o]at h5;rw [gA];exact h5
     by_cases q:x.lines.length=1
     .have t:((x.lines.length:Int)==1)=true:=by rw [q];rfl
      have HQ:Hid (true=(decide (x.lines.length=1)||decide (x.lines.length=2))):=by show _=_;rw [q];simp
      clear q;go_wp2_with fail
      refine (HN.o true HQ.o).mono ?_;rintro e w2 ⟨rfl,hk,hx⟩;have HR:=ah (And.intro hk (And.intro hx (And.intro (mP.o.but hx mN) (Cn.o.but hx gZ))));clear hk hx c0 c1 c2 c3 t kb;go_wp2
      go_meet
      exact HR.o
     .have t:((x.lines.length:Int)==1)=false:=by rw [beq_eq_false_iff_ne];omega
      have HQ:Hid (((x.lines.length:Int)==2)=(decide (x.lines.length=1)||decide (x.lines.length=2))):=by
       show _=_;rw [decide_eq_false q,Bool.false_or,Bool.eq_iff_iff,beq_iff_eq,decide_eq_true_eq];omega
      clear q;go_wp2_with fail
      refine (HN.o ((x.lines.length:Int)==2) HQ.o).mono ?_;rintro e w2 ⟨rfl,hk,hx⟩;have HR:=ah (And.intro hk (And.intro hx (And.intro (mP.o.but hx mN) (Cn.o.but hx gZ))));clear hk hx c0 c1 c2 c3 t kb;go_wp2
      go_meet
      exact HR.o
   case rest=>
    obtain ⟨hk,hx,hE',mQ⟩:=hcut;generalize wc=W4 at*;have Hb:=ah hk;have mP:=ah hE';have Cn:=ah mQ;have pV:=ah (kR.o.trans hx);have aiy:=ah (hx.ext ig.o dN.o)
    clear hk hx hE' mQ kR xn;obtain ⟨-,-,-,U7,-⟩:=oN Hb.o;have kb:=Cn.o.cl 0 (.pointer (some ⟨K,0,none⟩)) rfl;obtain ⟨c0,c1,c2,c3⟩:=cJ.at mP.o;by_cases h0:s3.err=0
    rotate_left
    .have t1:(s3.err !=0)=true:=by simpa using h0
     have h1:St.jh c s (i+1)=s3:=by
      rw [se.o];unfold St.lZ
      rw [<-FO.o,<-zT.o,<-Ht.o,if_pos h0]
     have h2:St.jh c s c.outs.length=s3:=by
      rw [St.FY c s (i+1) c.outs.length ae (by rw [h1];exact h0),h1]
     have HR:Hid (iW W4 K c (St.jh c s c.outs.length)):=by show iW _ _ _ _;rw [h2];exact Hb.o
     clear h0 h1 h2;go_wp2
     exact bodyPost_ret (v:= .tuple #[]) ax rfl ⟨rfl,HR.o,pV.o⟩
    have t1:(s3.err !=0)=false:=by simpa using h0
    have yM:Hid (St.jh c s (i+1)=((s3.BJ c.lines.length 1 x.lines).need (iY x.lines) 1 11).moves c x):=by
     show _=_;rw [se.o];unfold St.lZ
     rw [<-FO.o,<-zT.o,<-Ht.o,if_neg (λe=>e h0)]
    have aiz:=jq.o.2.1.le;have afi:=jq.o.2.1.cap
    clear h0 se FO zT Ht;obtain ⟨wo,BP⟩: ∃wo:World,wo=wr:=⟨_,rfl⟩;subst BP;go_wp2_with fail
    clear kb c0 c1 c2 c3 U7 t1;go_loopw [45] (λjj wl=> ∃j:Nat,j<=x.lines.length/\iW wl K c (s3.BJ c.lines.length 1 (x.lines.take j))/\aB K V wl/\aT wl E 75 x.cells/\aT wl B 127 [.pointer (some ⟨K,0,none⟩)]/\jj= .int .i64 j) (λjj _=>x.lines.length-(intOf jj).toNat)
    case atStart=>exact ⟨0,aZ,Hb.o,pV.o,mP.o,Cn.o,rfl⟩
    case round=>
     obtain ⟨j,hj,hk,hx,hA,hB,rfl⟩:=hrel;clear Hb pV mP Cn;by_cases EB:j<x.lines.length
     .have hE:=hx.ext HV.o dN.o
      obtain ⟨lb,lo,hla,cl⟩:=(jq.o.2.1.ext hE).cell j EB;have HT:=ah (St.LU s3 (c.lines.length:Int) 1 x.lines j EB);generalize s3.BJ (c.lines.length:Int) 1 (x.lines.take j)=s4 at*;obtain ⟨z,hz⟩: ∃z,z=x.lines[j]:=⟨_,rfl⟩;rw [<-hz]at cl HT;have OA:=ah hk;have pV:=ah hx;have yw:=ah hA;have SB:=ah hB
      have Tj:(0:Int)<=(j:Int):=ae;have Tk:(j:Int)<(x.lines.length:Int):=ae;have kb:wr.cell? ⟨B,0,none⟩=some (.pointer (some ⟨K,0,none⟩)):=(hB.cell 0).trans rfl;obtain ⟨-,-,-,k3,-⟩:=eM hk;have uM:=tC.o;clear hk hx hA hB hE hz;rw [hla];rcases Bool.eq_false_or_eq_true (decide (0<=z))with hp|hp
      .go_wp2_with fail
       refine aO (λw'=>w'.cell? ⟨B,0,none⟩=some (.pointer (some ⟨K,0,none⟩))/\w'.cell? ⟨K,3,none⟩=some (.slice c.la c.lines.length c.lc)) (λw'=>True) (λi=>false) ax (⟨kb,k3⟩) (trivial) (λaD ai=> ?_);refine aJ 0 aD ai ?_;refine aJ 1 aD ai ?_ (v:=i64 z);refine aJ 2 aD ai ?_;refine aJ 3 aD ai ?_;refine aJ 4 aD ai ?_ (v:=i64 z);refine aJ 5 aD ai ?_;refine aJ 6 aD ai ?_;refine aJ 7 aD ai ?_;refine aJ 8 aD ai ?_;refine aJ 9 aD ai ?_;refine aJ 10 aD ai ?_ (v:= .int .i64 (c.lines.length:Int));refine aJ 11 aD ai ?_ (v:= .bool (decide (z<(c.lines.length:Int))));refine aJ 12 aD ai ?_ (v:= .bool (decide (z<(c.lines.length:Int))));refine eI 13 rfl (λKc hK=> ?_);go_simp;refine (fH wr.drew K c s4 (decide (z<(c.lines.length:Int))) 1 12 (OA.o.ext ar.drew)).mono ?_;rintro e W5 ⟨rfl,Aa,eP⟩;refine hK.o _ _ (⟨bU (aC (Ext.refl wr).drew kb) eP gZ,(eM Aa).2.2.2.1⟩) (trivial) (λaD ai=> ?_);clear hK Kc;try simp only [sS]
       refine aI ax ?_ _;clear aD ai;have B_:iW W5 K c (s4.need (decide (0<=z)&&decide (z<(c.lines.length:Int))) 1 12):=by rw [hp];simpa using Aa
       have jA:aB K wr W5:=((Ext.refl wr).drew.but K).trans eP;have HR:=ah (And.intro B_ (And.intro (pV.o.trans jA) (And.intro (yw.o.but jA mN) (SB.o.but jA gZ))));clear Aa eP B_ jA hp uM k3 kb;go_wp2
       exact ⟨⟨j+1,ae,by rw [HT.o];exact HR.o.1,HR.o.2.1,HR.o.2.2.1,HR.o.2.2.2,bf⟩,a_⟩
      .go_wp2_with fail
       refine aO (λw'=>w'.cell? ⟨B,0,none⟩=some (.pointer (some ⟨K,0,none⟩))/\w'.cell? ⟨K,3,none⟩=some (.slice c.la c.lines.length c.lc)) (λw'=>True) (λi=>false) ax (⟨kb,k3⟩) (trivial) (λaD ai=> ?_);refine aJ 0 aD ai ?_;refine aJ 1 aD ai ?_ (v:=i64 z);refine aJ 2 aD ai ?_;refine aJ 3 aD ai ?_;refine tF 4 aD ai ?_;refine tF 5 aD ai ?_;refine tF 6 aD ai ?_;refine tF 7 aD ai ?_;refine tF 8 aD ai ?_;refine tF 9 aD ai ?_;refine tF 10 aD ai ?_;refine tF 11 aD ai ?_;refine aJ 12 aD ai ?_;refine eI 13 rfl (λKc hK=> ?_);go_simp;refine (fH wr.drew K c s4 (false) 1 12 (OA.o.ext ar.drew)).mono ?_;rintro e W5 ⟨rfl,Aa,eP⟩;refine hK.o _ _ (⟨bU (aC (Ext.refl wr).drew kb) eP gZ,(eM Aa).2.2.2.1⟩) (trivial) (λaD ai=> ?_);clear hK Kc;try simp only [sS]
       refine aI ax ?_ _;clear aD ai;have B_:iW W5 K c (s4.need (decide (0<=z)&&decide (z<(c.lines.length:Int))) 1 12):=by rw [hp];simpa using Aa
       have jA:aB K wr W5:=((Ext.refl wr).drew.but K).trans eP;have HR:=ah (And.intro B_ (And.intro (pV.o.trans jA) (And.intro (yw.o.but jA mN) (SB.o.but jA gZ))));clear Aa eP B_ jA hp uM k3 kb;go_wp2
       exact ⟨⟨j+1,ae,by rw [HT.o];exact HR.o.1,HR.o.2.1,HR.o.2.2.1,HR.o.2.2.2,bf⟩,a_⟩
     .obtain rfl:j=x.lines.length:=ae
      rw [List.take_length]at hk;obtain ⟨s4,Co⟩: ∃s',s'=s3.BJ (c.lines.length:Int) 1 x.lines:=⟨_,rfl⟩;rw [<-Co]at hk;have Gk:=yM.o;rw [<-Co]at Gk;have yM:=ah Gk;have OA:=ah hk;have pV:=ah hx;have yw:=ah hA;have SB:=ah hB
      have NC:=ah (hx.ext HV.o dN.o);have kb:wr.cell? ⟨B,0,none⟩=some (.pointer (some ⟨K,0,none⟩)):=(hB.cell 0).trans rfl;have e1:wr.cell? ⟨E,1,none⟩=some (.slice x.la x.lines.length x.lc):=(hA.cell 1).trans rfl;clear hk hx hA hB Co Gk;go_wp2_with fail
      refine aO (λw'=>w'.cell? ⟨B,0,none⟩=some (.pointer (some ⟨K,0,none⟩))/\w'.cell? ⟨E,1,none⟩=some (.slice x.la x.lines.length x.lc)) (λw'=>True) (λi=>false) ax (⟨kb,e1⟩) (trivial) (λaD ai=> ?_);refine aJ 0 aD ai ?_;refine aJ 1 aD ai ?_;refine aJ 2 aD ai ?_;refine eI 3 rfl (λKc hK=> ?_);go_simp;refine (nz wr.drew x.la x.lc x.lines (jq.o.2.1.ext (NC.o.trans ar.drew))).mono ?_;rintro e z1 ⟨rfl,xz⟩;refine hK.o _ _ (⟨aC ((Ext.refl wr).drew.trans xz) kb,aC ((Ext.refl wr).drew.trans xz) e1⟩) (trivial) (λaD ai=> ?_);clear hK Kc;try simp only [sS]
      refine eI 4 rfl (λKc hK=> ?_);go_simp;refine (fH z1 K c s4 (iY x.lines) 1 11 (OA.o.ext ((Ext.refl wr).drew.trans xz))).mono ?_;rintro e W5 ⟨rfl,Aa,eP⟩;refine hK.o _ _ (⟨bU (aC ((Ext.refl wr).drew.trans xz) kb) eP gZ,bU (aC ((Ext.refl wr).drew.trans xz) e1) eP mN⟩) (trivial) (λaD ai=> ?_);clear hK Kc;try simp only [sS]
      refine aI ax ?_ _;clear aD ai kb e1;obtain ⟨s5,hs5⟩: ∃s',s'=s4.need (iY x.lines) 1 11:=⟨_,rfl⟩;rw [<-hs5]at Aa;have Gk:=yM.o;rw [<-hs5]at Gk;have yM:=ah Gk;have jA:aB K wr W5:=(((Ext.refl wr).drew.trans xz).but K).trans eP;have PX:=ah (yw.o.but jA mN);have HB5:=ah (SB.o.but jA gZ)
      have lW:=ah (pV.o.trans jA);have Zv:=ah (jA.ext NC.o dN.o)
      have YP:=ah (Oz w0 W5 K c s5 x dN.o Zv.o BK.o jq.o.2.2.1 jq.o.2.2.2 Aa);have kb:=HB5.o.cl 0 (.pointer (some ⟨K,0,none⟩)) rfl;obtain ⟨c0,c1,c2,c3⟩:=cJ.at PX.o;clear hs5 Gk eP jA xz Aa;go_wp2_with fail
      refine YP.o.mono ?_;rintro e W6 ⟨rfl,B_,jA⟩;have HR:=ah (And.intro B_ (And.intro (lW.o.trans jA) (HB5.o.but jA gZ)));clear B_ jA kb c0 c1 c2 c3;go_wp2
      exact ⟨⟨i+1,ae,by rw [yM.o];exact HR.o.1,HR.o.2.1,HR.o.2.2,bf⟩,a_⟩
  .obtain rfl:i=c.outs.length:=ae
   go_wp2
   exact bodyPost_end (v:= .tuple #[]) ax rfl ⟨rfl,hk,hx⟩
