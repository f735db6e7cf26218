/- Texts of the proof. -/
import Derived.Test.YtkpngkdgphojlaaGreatCd13
set_option linter.all false
set_option maxHeartbeats 2000000
set_option maxRecDepth 100000
namespace Go.Proofs.YtkpngkdgphojlaaGreat
open Go.Proofs.Tryz
open Go.RowKit
theorem F5 (w0 V:World) (K:Nat) (c:ai) (s:St) (hK:w0.heap.size≤K) (hV:Ext w0 V) (hc:aS w0 c) (hn:c.outs.length≤1000000) (h:gY V K c s):
 Calls prog 84 #[.pointer (some ⟨K,0,none⟩)] V fun e' w'=>kW V K c (s.outs c) e' w':=by
 have J9:=h.lt;have hr:=hc.outs;have hle:=hr.le;have dy:=hr.cap
 rw [List.length_map]at hle;have hen: ∀args w,(callFunc 145 args).run prog w= .ok (.enter 145 args) w:=enters_of func145 (by kernel_rfl) rfl;have Ho:=ae hen;have HV:=ae hV;have et:=ae hc;have HH:=ae h;have cX:=ae hK
 unfold St.outs;clear hr h hc hV hen hK;go_enter func84,ntmps84
 go_upto_region 1 with fail
 obtain ⟨W,hW,x0,Z0,A0⟩:=aH V 141 [.pointer (some ⟨K,0,none⟩)];rw [show V.alloc (.cells #[.pointer (some ⟨K,0,none⟩)] 141)=W from hW.symm];clear hW;obtain ⟨B,hB⟩: ∃B,B=V.heap.size:=⟨_,rfl⟩;rw [←hB]at A0⊢;have fP:B≠K:=by omega
 have kb:W.cell? ⟨B,0,none⟩=some (.pointer (some ⟨K,0,none⟩)):=(A0.cell 0).trans rfl;have Xv:=HH.o.ext x0;obtain ⟨k0,k1,k2,k3,k4,k5,k6,k7⟩:=dO Xv;have zR:=ae A0;have Sa:=ae Xv;have X0:=ae (x0.but K)
 have wC:=ae hB;clear A0 Xv Z0 x0 hB HH;go_wp2_with fail
 clear kb k0 k1 k2 k3 k4 k5 k6 k7;go_loopw [12] (fun ii wr=> ∃i:Nat,i≤c.outs.length∧gY wr K c (St.iA c s i)∧ar K V wr∧aJ wr B 141 [.pointer (some ⟨K,0,none⟩)]∧ii= .int .i64 i) (fun ii _=>c.outs.length-(intOf ii).toNat)
 case atStart=>exact ⟨0,Nat.zero_le _,Sa.o,X0.o,zR.o,rfl⟩
 case round=>
  obtain ⟨i,hi,hk,hx,hA,rfl⟩:=hrel;clear zR Sa X0;by_cases hlt:i<c.outs.length
  ·have hE:=hx.ext HV.o cX.o
   have qZ:=ae (St.AJ c s i hlt);obtain ⟨b,o,ha,c0,c1,c2,c3⟩:=(et.o.outs.ext hE).outs i hlt;have jb:=et.o.o c.outs[i] (List.getElem_mem hlt);generalize St.iA c s i=s0 at*;obtain ⟨prev,CN⟩: ∃prev,prev=(c.outs.take i).map bB.name:=⟨_,rfl⟩;rw [←CN]at qZ;have Ap:prev.length=i:=by subst CN;simp;omega
   have MB: ∀j (hj:j<prev.length),∃h:j<c.outs.length,prev[j]=c.outs[j].name:=fun j hj=>⟨by omega,by subst CN;simp⟩;obtain ⟨x,jc⟩: ∃x,x=c.outs[i]:=⟨_,rfl⟩;rw [←jc]at c0 c1 c2 c3 jb qZ;have iz:=ae jb;have zP:=ae MB;have xy:=ae Ap
   have Ld:=ae hk;have HX:=ae hx;have HE:=ae hE;have HA:=ae hA
   have kb:wr.cell? ⟨B,0,none⟩=some (.pointer (some ⟨K,0,none⟩)):=(hA.cell 0).trans rfl;have f_:(0:Int)≤(i:Int):=by omega
   have fU:(i:Int)<(c.outs.length:Int):=by omega
   clear jb MB Ap CN jc hk hx hE hA;rw [ha];go_upto_region 4 with fail
   obtain ⟨W1,hW1,x1,Z1,A1⟩:=aH wr 87 x.cells;rw [show wr.alloc (.cells #[.string x.name,.slice x.la x.lines.length x.lc,.bool x.bC,.slice x.ma x.moves.length x.mc] 87)=W1 from hW1.symm];clear hW1 c0 c1 c2 c3;obtain ⟨E,lh⟩: ∃E,E=wr.heap.size:=⟨_,rfl⟩;rw [←lh]at A1⊢;have lg:E≠K:=by have:=Ld.o.lt;omega
   have hK0:=Ld.o.ext x1;have mY:=ae A1;have zT:=ae (HA.o.ext x1);have MC:ar K V W1:=HX.o.trans (x1.but K);have N4:Ext w0 W1:=HE.o.trans x1;clear lh A1 Z1 x1 Ld HA kb;have kb:=zT.o.cl 0 (.pointer (some ⟨K,0,none⟩)) rfl;obtain ⟨c0,c1,c2,c3⟩:=bB.at mY.o;go_wp2_with fail
   refine (Aj W1 K c s0 6 i hK0).mono ?_;rintro e W2 ⟨rfl,Xw,hx1⟩;obtain ⟨s1,hs1⟩: ∃s',s'=(s0.at 6 i):=⟨_,rfl⟩;rw [←hs1]at Xw;have GL:=ae hs1;clear hs1;clear kb c0 c1 c2 c3;have mY:=ae (mY.o.but hx1 lg);have zT:=ae (zT.o.but hx1 fP)
   have MD:ar K V W2:=MC.trans hx1;have N4:Ext w0 W2:=hx1.ext N4 cX.o;clear hx1 MC hK0;have kb:=zT.o.cl 0 (.pointer (some ⟨K,0,none⟩)) rfl;obtain ⟨c0,c1,c2,c3⟩:=bB.at mY.o
   have CM:s1.err=0→s1.idx=(prev.length:Int):=fun h0=>by
    rw [xy.o];rw [GL.o]at h0⊢;unfold St.at at h0⊢;split
    ·rfl
    ·rename_i hne;rw [if_neg hne]at h0;exact absurd h0 hne
   have HN:=ae (qV W2 K c s1 x.name iz.o.1 prev 145 B CM (by rw [xy.o];omega) Ho.o (fun V' s' j hj mH Hp=>by
    obtain ⟨hj',ej⟩:=zP.o j hj;rw [ej];exact KJ w0 V' K B c s' j cX.o (mH.ext N4 cX.o) et.o Hp (bL ((zT.o.cell 0).trans rfl) mH fP) hj') Xw)
   clear CM;go_wp2_with fail
   refine HN.o.mono ?_;rintro e W3 ⟨rfl,hK2,hx2⟩;obtain ⟨s2,hs2⟩: ∃s',s'=(s1.name x.name prev):=⟨_,rfl⟩;rw [←hs2]at hK2;have zQ:=ae hs2;clear hs2;clear kb c0 c1 c2 c3;have mY:=ae (mY.o.but hx2 lg);have zT:=ae (zT.o.but hx2 fP)
   have Mu:ar K V W3:=MD.trans hx2;have N4:Ext w0 W3:=hx2.ext N4 cX.o;clear hx2 MD Xw;obtain ⟨s3,hs3⟩: ∃s',s'=s2.need (decide (x.lines.length=1)||decide (x.lines.length=2)) 1 4:=⟨_,rfl⟩;have UO:=ae hs3;have uA:=ae hK2;have mS:=ae Mu;have fS:=ae N4
   have lK:Hid (c.au.length≤9223372036854775807):=by
    show _≤_;have h1:=et.o.au.le;have h2:=et.o.au.cap;rw [List.length_map]at h1;omega
   have nU:Hid (c.lines.length≤9223372036854775807):=by
    show _≤_;have h1:=et.o.lines.le;have h2:=et.o.lines.cap;rw [List.length_map]at h1;omega
   clear hs3 hK2 Mu N4;go_upto_region 6 with fail
   go_cut [] (fun wx=>gY wx K c s3∧ar K W3 wx∧aJ wx E 87 x.cells∧aJ wx B 141 [.pointer (some ⟨K,0,none⟩)])
   case first=>
    as_aux_lemma=>
     have kb:=zT.o.cl 0 (.pointer (some ⟨K,0,none⟩)) rfl;obtain ⟨c0,c1,c2,c3⟩:=bB.at mY.o
     have QC:Hid (x.lines.length≤9223372036854775807):=by
      show _≤_;have h1:=iz.o.2.1.le;have h2:=iz.o.2.1.cap;omega
     have HN:Hid (∀ok,ok=(decide (x.lines.length=1)||decide (x.lines.length=2))→Calls prog 134 #[.pointer (some ⟨K,0,none⟩),.bool ok,i64 1,i64 4] W3 fun e' w'=>kW W3 K c s3 e' w'):=fun ok kM=>by
      have h5:=eF W3 K c s2 ok 1 4 uA.o;rw [kM,←UO.o]at h5;rw [kM];exact h5
     by_cases q:x.lines.length=1
     ·have t:((x.lines.length:Int)==1)=true:=by rw [q];rfl
      have HQ:Hid (true=(decide (x.lines.length=1)||decide (x.lines.length=2))):=by show _=_;rw [q];simp
      clear q;go_wp2_with fail
      refine (HN.o true HQ.o).mono ?_;rintro e w2 ⟨rfl,hk,hx⟩;have HR:=ae (And.intro hk (And.intro hx (And.intro (mY.o.but hx lg) (zT.o.but hx fP))));clear hk hx c0 c1 c2 c3 t kb;go_wp2_with fail
      go_meet
      exact HR.o
     ·have t:((x.lines.length:Int)==1)=false:=by rw [beq_eq_false_iff_ne];omega
      have HQ:Hid (((x.lines.length:Int)==2)=(decide (x.lines.length=1)||decide (x.lines.length=2))):=by
       show _=_;rw [decide_eq_false q,Bool.false_or,Bool.eq_iff_iff,beq_iff_eq,decide_eq_true_eq];omega
      clear q;go_wp2_with fail
      refine (HN.o ((x.lines.length:Int)==2) HQ.o).mono ?_;rintro e w2 ⟨rfl,hk,hx⟩;have HR:=ae (And.intro hk (And.intro hx (And.intro (mY.o.but hx lg) (zT.o.but hx fP))));clear hk hx c0 c1 c2 c3 t kb;go_wp2_with fail
      go_meet
      exact HR.o
   case rest=>
    obtain ⟨hk,hx,hE',ll⟩:=hcut;generalize wc=W4 at*;have Eg:=ae hk;have mY:=ae hE';have zT:=ae ll;have qX:=ae (mS.o.trans hx);have adv:=ae (hx.ext fS.o cX.o)
    clear hk hx hE' ll mS uA;obtain ⟨-,-,-,Qz,-⟩:=m_ Eg.o;have kb:=zT.o.cl 0 (.pointer (some ⟨K,0,none⟩)) rfl;obtain ⟨c0,c1,c2,c3⟩:=bB.at mY.o;by_cases h0:s3.err=0
    rotate_left
    ·have t1:(s3.err !=0)=true:=by simpa using h0
     have h1:St.iA c s (i+1)=s3:=by
      rw [qZ.o];unfold St.ky
      rw [←GL.o,←zQ.o,←UO.o,if_pos h0]
     have h2:St.iA c s c.outs.length=s3:=by
      rw [St.C5 c s (i+1) c.outs.length (by omega) (by rw [h1];exact h0),h1]
     have HR:Hid (gY W4 K c (St.iA c s c.outs.length)):=by show gY _ _ _ _;rw [h2];exact Eg.o
     clear h0 h1 h2;go_wp2_with fail
     exact bodyPost_ret (v:= .tuple #[]) (by simp [results,results84,go_sem]) rfl ⟨rfl,HR.o,qX.o⟩
    have t1:(s3.err !=0)=false:=by simpa using h0
    have wQ:Hid (St.iA c s (i+1)=((s3.yQ c.lines.length 1 x.lines).need (g_ x.lines) 1 11).moves c x):=by
     show _=_;rw [qZ.o];unfold St.ky
     rw [←GL.o,←zQ.o,←UO.o,if_neg (fun e=>e h0)]
    have adw:=iz.o.2.1.le;have aaR:=iz.o.2.1.cap
    clear h0 qZ GL zQ UO;obtain ⟨wo,Dl⟩: ∃wo:World,wo=wr:=⟨_,rfl⟩;subst Dl;go_wp2_with fail
    clear kb c0 c1 c2 c3 Qz t1;go_loopw [45] (fun jj wl=> ∃j:Nat,j≤x.lines.length∧gY wl K c (s3.yQ c.lines.length 1 (x.lines.take j))∧ar K V wl∧aJ wl E 87 x.cells∧aJ wl B 141 [.pointer (some ⟨K,0,none⟩)]∧jj= .int .i64 j) (fun jj _=>x.lines.length-(intOf jj).toNat)
    case atStart=>exact ⟨0,Nat.zero_le _,Eg.o,qX.o,mY.o,zT.o,rfl⟩
    case round=>
     obtain ⟨j,hj,hk,hx,hA,hB,rfl⟩:=hrel;clear Eg qX mY zT;by_cases yy:j<x.lines.length
     ·have hE:=hx.ext HV.o cX.o
      obtain ⟨lb,lo,hla,cl⟩:=(iz.o.2.1.ext hE).cell j yy;have HT:=ae (St.H7 s3 (c.lines.length:Int) 1 x.lines j yy);generalize s3.yQ (c.lines.length:Int) 1 (x.lines.take j)=s4 at*;obtain ⟨z,hz⟩: ∃z,z=x.lines[j]:=⟨_,rfl⟩;rw [←hz]at cl HT;have N0:=ae hk;have qX:=ae hx;have zS:=ae hA;have UQ:=ae hB
      have Qr:(0:Int)≤(j:Int):=by omega
      have Nh:(j:Int)<(x.lines.length:Int):=by omega
      have kb:wr.cell? ⟨B,0,none⟩=some (.pointer (some ⟨K,0,none⟩)):=(hB.cell 0).trans rfl;obtain ⟨-,-,-,k3,-⟩:=dO hk;have tC:=nU.o;clear hk hx hA hB hE hz;rw [hla];rcases Bool.eq_false_or_eq_true (decide (0≤z))with hp|hp
      ·go_wp2_with fail
       refine aB (fun w'=>w'.cell? ⟨B,0,none⟩=some (.pointer (some ⟨K,0,none⟩))∧w'.cell? ⟨K,3,none⟩=some (.slice c.la c.lines.length c.lc)) (fun w'=>True) (fun i=>false) (by kernel_rfl) (⟨kb,k3⟩) (trivial) (fun aq ah=> ?_);refine ay 0 aq ah ?_;refine ay 1 aq ah ?_ (v:=i64 z);refine ay 2 aq ah ?_;refine ay 3 aq ah ?_;refine ay 4 aq ah ?_ (v:=i64 z);refine ay 5 aq ah ?_;refine ay 6 aq ah ?_;refine ay 7 aq ah ?_;refine ay 8 aq ah ?_;refine ay 9 aq ah ?_;refine ay 10 aq ah ?_ (v:= .int .i64 (c.lines.length:Int));refine ay 11 aq ah ?_ (v:= .bool (decide (z<(c.lines.length:Int))));refine ay 12 aq ah ?_ (v:= .bool (decide (z<(c.lines.length:Int))));refine dX 13 rfl (fun Kc hK=> ?_);go_simp;refine (eF wr.drew K c s4 (decide (z<(c.lines.length:Int))) 1 12 (N0.o.ext (Ext.refl _).drew)).mono ?_;rintro e W5 ⟨rfl,xH,eY⟩;refine hK.o _ _ (⟨bL (aj (Ext.refl wr).drew kb) eY fP,(dO xH).2.2.2.1⟩) (trivial) (fun aq ah=> ?_);clear hK Kc;try simp only [sS]
       refine ax (by kernel_rfl) ?_ _;clear aq ah;have y_:gY W5 K c (s4.need (decide (0≤z)&&decide (z<(c.lines.length:Int))) 1 12):=by rw [hp];simpa using xH
       have kU:ar K wr W5:=((Ext.refl wr).drew.but K).trans eY;have HR:=ae (And.intro y_ (And.intro (qX.o.trans kU) (And.intro (zS.o.but kU lg) (UQ.o.but kU fP))));clear xH eY y_ kU hp tC k3 kb;go_wp2_with fail
       exact ⟨⟨j+1,by omega,by rw [HT.o];exact HR.o.1,HR.o.2.1,HR.o.2.2.1,HR.o.2.2.2,by go_num⟩,by simp only [intOf];omega⟩
      ·go_wp2_with fail
       refine aB (fun w'=>w'.cell? ⟨B,0,none⟩=some (.pointer (some ⟨K,0,none⟩))∧w'.cell? ⟨K,3,none⟩=some (.slice c.la c.lines.length c.lc)) (fun w'=>True) (fun i=>false) (by kernel_rfl) (⟨kb,k3⟩) (trivial) (fun aq ah=> ?_);refine ay 0 aq ah ?_;refine ay 1 aq ah ?_ (v:=i64 z);refine ay 2 aq ah ?_;refine ay 3 aq ah ?_;refine Ai 4 aq ah ?_;refine Ai 5 aq ah ?_;refine Ai 6 aq ah ?_;refine Ai 7 aq ah ?_;refine Ai 8 aq ah ?_;refine Ai 9 aq ah ?_;refine Ai 10 aq ah ?_;refine Ai 11 aq ah ?_;refine ay 12 aq ah ?_;refine dX 13 rfl (fun Kc hK=> ?_);go_simp;refine (eF wr.drew K c s4 (false) 1 12 (N0.o.ext (Ext.refl _).drew)).mono ?_;rintro e W5 ⟨rfl,xH,eY⟩;refine hK.o _ _ (⟨bL (aj (Ext.refl wr).drew kb) eY fP,(dO xH).2.2.2.1⟩) (trivial) (fun aq ah=> ?_);clear hK Kc;try simp only [sS]
       refine ax (by kernel_rfl) ?_ _;clear aq ah;have y_:gY W5 K c (s4.need (decide (0≤z)&&decide (z<(c.lines.length:Int))) 1 12):=by rw [hp];simpa using xH
       have kU:ar K wr W5:=((Ext.refl wr).drew.but K).trans eY;have HR:=ae (And.intro y_ (And.intro (qX.o.trans kU) (And.intro (zS.o.but kU lg) (UQ.o.but kU fP))));clear xH eY y_ kU hp tC k3 kb;go_wp2_with fail
       exact ⟨⟨j+1,by omega,by rw [HT.o];exact HR.o.1,HR.o.2.1,HR.o.2.2.1,HR.o.2.2.2,by go_num⟩,by simp only [intOf];omega⟩
     ·obtain rfl:j=x.lines.length:=by omega
      rw [List.take_length]at hk;obtain ⟨s4,zU⟩: ∃s',s'=s3.yQ (c.lines.length:Int) 1 x.lines:=⟨_,rfl⟩;rw [←zU]at hk;have Dq:=wQ.o;rw [←zU]at Dq;have wQ:=ae Dq;have N0:=ae hk;have qX:=ae hx;have zS:=ae hA;have UQ:=ae hB
      have N1:=ae (hx.ext HV.o cX.o);have kb:wr.cell? ⟨B,0,none⟩=some (.pointer (some ⟨K,0,none⟩)):=(hB.cell 0).trans rfl;have e1:wr.cell? ⟨E,1,none⟩=some (.slice x.la x.lines.length x.lc):=(hA.cell 1).trans rfl;clear hk hx hA hB zU Dq;go_wp2_with fail
      refine aB (fun w'=>w'.cell? ⟨B,0,none⟩=some (.pointer (some ⟨K,0,none⟩))∧w'.cell? ⟨E,1,none⟩=some (.slice x.la x.lines.length x.lc)) (fun w'=>True) (fun i=>false) (by kernel_rfl) (⟨kb,e1⟩) (trivial) (fun aq ah=> ?_);refine ay 0 aq ah ?_;refine ay 1 aq ah ?_;refine ay 2 aq ah ?_;refine dX 3 rfl (fun Kc hK=> ?_);go_simp;refine (lT wr.drew x.la x.lc x.lines (iz.o.2.1.ext (N1.o.trans (Ext.refl _).drew))).mono ?_;rintro e z1 ⟨rfl,xz⟩;refine hK.o _ _ (⟨aj ((Ext.refl wr).drew.trans xz) kb,aj ((Ext.refl wr).drew.trans xz) e1⟩) (trivial) (fun aq ah=> ?_);clear hK Kc;try simp only [sS]
      refine dX 4 rfl (fun Kc hK=> ?_);go_simp;refine (eF z1 K c s4 (g_ x.lines) 1 11 (N0.o.ext ((Ext.refl wr).drew.trans xz))).mono ?_;rintro e W5 ⟨rfl,xH,eY⟩;refine hK.o _ _ (⟨bL (aj ((Ext.refl wr).drew.trans xz) kb) eY fP,bL (aj ((Ext.refl wr).drew.trans xz) e1) eY lg⟩) (trivial) (fun aq ah=> ?_);clear hK Kc;try simp only [sS]
      refine ax (by kernel_rfl) ?_ _;clear aq ah kb e1;obtain ⟨s5,hs5⟩: ∃s',s'=s4.need (g_ x.lines) 1 11:=⟨_,rfl⟩;rw [←hs5]at xH;have Dq:=wQ.o;rw [←hs5]at Dq;have wQ:=ae Dq;have kU:ar K wr W5:=(((Ext.refl wr).drew.trans xz).but K).trans eY;have Mo:=ae (zS.o.but kU lg);have HB5:=ae (UQ.o.but kU fP)
      have wm:=ae (qX.o.trans kU);have UN:=ae (kU.ext N1.o cX.o)
      have Ud:=ae (KX w0 W5 K c s5 x cX.o UN.o lK.o iz.o.2.2.1 iz.o.2.2.2 xH);have kb:=HB5.o.cl 0 (.pointer (some ⟨K,0,none⟩)) rfl;obtain ⟨c0,c1,c2,c3⟩:=bB.at Mo.o;clear hs5 Dq eY kU xz xH;go_wp2_with fail
      refine Ud.o.mono ?_;rintro e W6 ⟨rfl,y_,kU⟩;have HR:=ae (And.intro y_ (And.intro (wm.o.trans kU) (HB5.o.but kU fP)));clear y_ kU kb c0 c1 c2 c3;go_wp2_with fail
      exact ⟨⟨i+1,by omega,by rw [wQ.o];exact HR.o.1,HR.o.2.1,HR.o.2.2,by go_num⟩,by simp only [intOf];omega⟩
  ·obtain rfl:i=c.outs.length:=by omega
   go_wp2_with fail
   exact bodyPost_end (v:= .tuple #[]) (by simp [results,results84,go_sem]) rfl ⟨rfl,hk,hx⟩
end Go.Proofs.YtkpngkdgphojlaaGreat
