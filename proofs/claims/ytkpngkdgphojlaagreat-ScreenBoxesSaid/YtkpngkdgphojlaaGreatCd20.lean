/- Texts of the proof. -/
import Derived.Test.YtkpngkdgphojlaaGreatCd19
set_option linter.all false
set_option maxHeartbeats 2000000
set_option maxRecDepth 100000
namespace Go.Proofs.YtkpngkdgphojlaaGreat
open Go.Proofs.Tryz
open Go.RowKit
theorem Dm {f:Nat→Nat} {x y j:Nat} {w:World} {L n:Nat} (h:jk w L (fun b=>if b<j then merge f x y b else f b) n) (e:f j=y):jk (w.setCell ⟨L,j,none⟩ (i64 (x:Int))) L (fun b=>if b<j+1 then merge f x y b else f b) n:=
 (h.set j x).congr fun b _=>by
   unfold fQ;by_cases q:b=j
   ·subst q;rw [if_pos rfl,if_pos (by omega)];unfold merge;rw [if_pos e]
   ·rw [if_neg q]
    show(if b<j then merge f x y b else f b)=(if b<j+1 then merge f x y b else f b);by_cases q2:b<j
    ·rw [if_pos q2,if_pos (by omega)]
    ·rw [if_neg q2,if_neg (by omega)]
theorem Dn {f:Nat→Nat} {x y j:Nat} {w:World} {L n:Nat} (h:jk w L (fun b=>if b<j then merge f x y b else f b) n) (e:f j≠y):jk w L (fun b=>if b<j+1 then merge f x y b else f b) n:=
 h.congr fun b _=>by
  show(if b<j then merge f x y b else f b)=(if b<j+1 then merge f x y b else f b);by_cases q:b=j
  ·subst q;rw [if_neg (by omega),if_pos (by omega)];unfold merge;rw [if_neg e]
  ·by_cases q2:b<j
   ·rw [if_pos q2,if_pos (by omega)]
   ·rw [if_neg q2,if_neg (by omega)]
theorem Dp {f:Nat→Nat} {x y:Nat} {w:World} {L n:Nat} (h:jk w L (fun b=>if b<n then merge f x y b else f b) n):jk w L (merge f x y) n:=h.congr fun b hb=>by simp [hb]
theorem Bi (V:World) (c:ai) (hc:aS V c) (hn:c.ak.length≤1000000) (Ko: ∀i (hi:i<c.lines.length),(0≤c.lines[i].cU∧c.lines[i].cU<c.ak.length)∧(0≤c.lines[i].j5∧c.lines[i].j5<c.ak.length))
 (a:Option Addr) (ca:Nat) (l:List Nat) (hl:aD V a ca (bU l)) (tC: ∀i∈l,i<c.lines.length) (b:Option Addr) (cb:Nat) (gone:List Int) (hg:aD V b cb gone):
 Calls prog 149 #[.agg (C8 c),.slice a l.length ca,.slice b gone.length cb] V fun e w'=>e= .returned (i64 ((comps c.ak.length (kept c l gone l.length):Nat):Int))∧Ext V w':=by
 try unfold C8
 have hle:=hl.le;have dy:=hl.cap
 rw [cq]at hle;have Kg:=hc.lines.le;have hcc:=hc.lines.cap
 rw [List.length_map]at Kg;have et:=ae hc;have HL:=ae hl;have nU:=ae tC;have HG:=ae hg;have MA:=ae Ko
 clear hc hl tC hg Ko;go_enter func149,ntmps149
 go_upto_region 1 with fail
 obtain ⟨W,hW,x0,Z0,A0⟩:=aH V 32 c.cells;rw [show V.alloc (.cells (C8 c) 32)=W from hW.symm];clear hW;have pG:=ae x0;obtain ⟨B,hB⟩: ∃B,B=V.heap.size:=⟨_,rfl⟩;rw [←hB]at A0⊢;have HA:=ae A0;obtain ⟨-,-,k2,-⟩:=ai.at A0;have wC:=ae hB;clear A0 x0 Z0 hB;go_wp2_with (at_make;refine dF _ rfl _ _ 22 rfl 3 (.int .i64 0) 8 underlying22 Tryz.info_int rfl _ _ c.ak.length rfl rfl rfl rfl (by omega) (by omega) ?_;intro w1 fK hx1 hz1)
 obtain ⟨L,hL⟩: ∃L,L=W.heap.size:=⟨_,rfl⟩;rw [←hL]at fK⊢;have AD:Hid (W.heap.size≤L):=by show _≤_;omega
 have lW:=ae (jk.zero fK.o);have fJ:=ae hx1
 clear fK hx1 hz1 hL k2;go_loopw [21] (fun ii wr=> ∃k:Nat,k≤c.ak.length∧jk wr L (fun b=>if b<k then b else 0) c.ak.length∧Ext W wr∧ii= .int .i64 k) (fun ii _=>c.ak.length-(intOf ii).toNat)
 case atStart=>exact ⟨0,Nat.zero_le _,lW.o,fJ.o,rfl⟩
 case round=>
  obtain ⟨k,hk,hT,hX,rfl⟩:=hrel;clear lW fJ;by_cases hlt:k<c.ak.length
  ·obtain ⟨c0,f0⟩:=hT.cell k hlt
   have mX:=ae hT.next;have fg:=ae (hX.setCell (p:=⟨L,k,none⟩) AD.o (i64 (k:Int)))
   have b0:(0:Int)≤(k:Int):=by omega
   have b1:(k:Int)<(c.ak.length:Int):=by omega
   clear hT hX;go_wp2_with fail
   exact ⟨⟨k+1,by omega,mX.o,fg.o,by go_num⟩,by simp only [intOf];omega⟩
  ·obtain rfl:k=c.ak.length:=by omega
   have mX:=ae hT.full;have fg:=ae hX
   have HCL:=ae (NU c.ak.length);clear hT hX;go_wp2_with fail
   go_loopw [9,33] (fun cv ii wl=> ∃(i:Nat) (f:Nat→Nat) (cn:Nat),i≤l.length∧jk wl L f c.ak.length∧Ext W wl∧fp c c.ak.length l gone i f∧cls f c.ak.length=cn∧cv= .int .i64 cn∧ii= .int .i64 i) (fun _ ii _=>l.length-(intOf ii).toNat)
   case atStart=>exact ⟨0,fun b=>b,c.ak.length,Nat.zero_le _,mX.o,fg.o,fp.zero c _ l gone,HCL.o,rfl,rfl⟩
   case round=>
    obtain ⟨i,f,cn,hi,hT,hX,hP,Bj,rfl,rfl⟩:=hrel;clear mX fg HCL;by_cases hlt:i<l.length
    ·obtain ⟨lk,hlk⟩: ∃lk,lk=l[i]:=⟨_,rfl⟩
     obtain ⟨lo,ab,ha,i0⟩: ∃(ao:Nat) (ab:Nat),a=some ⟨ab,ao,none⟩∧wr.cell? ⟨ab,ao+i,none⟩=some (i64 (lk:Int)):=by
      obtain ⟨ab,ao,hab,i0⟩:=((HL.o.ext pG.o).ext hX).cell i (by rw [cq];exact hlt);have e0:(bU l)[i]'(by rw [cq];exact hlt)=((l[i]:Nat):Int):=by simp [bU]
      rw [e0,←hlk]at i0;exact ⟨ao,ab,hab,i0⟩
     have NV:lk<c.lines.length:=by rw [hlk];exact nU.o _ (List.getElem_mem hlt)
     obtain ⟨xb,xo,hxa,-,r1,r2,-⟩:=((et.o.ext pG.o).ext hX).lines.lines lk NV;obtain ⟨⟨g1,g2⟩,g3,g4⟩:=MA.o lk NV;obtain ⟨⟨p,q⟩,R5⟩: ∃pq,pq=km c lk:=⟨_,rfl⟩
     have hp:c.lines[lk].cU=(p:Int)∧c.lines[lk].j5=(q:Int)∧p<c.ak.length∧q<c.ak.length:=by
      unfold km at R5;rw [nT NV]at R5;simp only [Prod.mk.injEq]at R5;omega
     obtain ⟨hp1,hp2,Xl,Xm⟩:=hp;rw [hp1]at r1;rw [hp2]at r2;obtain ⟨t1,-⟩:=hT.cell p Xl;obtain ⟨t2,-⟩:=hT.cell q Xm;obtain ⟨x,hx⟩: ∃x,x=f p:=⟨_,rfl⟩;obtain ⟨y,hy⟩: ∃y,y=f q:=⟨_,rfl⟩;rw [←hx]at t1;rw [←hy]at t2;have NW:Hid (km c l[i]=(p,q)):=by show _=_;rw [←hlk];exact R5.symm
     have R6:Hid (x=y→fp c c.ak.length l gone (i+1) f):=fun e=>hP.same hlt (by rw [NW.o];exact Xl) (by rw [NW.o];exact Xm) (by rw [NW.o];rw [hx,hy]at e;exact e);have R7:Hid (hasB gone (lk:Int)=true→fp c c.ak.length l gone (i+1) f):=fun e=>hP.gone hlt (by rw [←hlk];exact e)
     have R8:Hid (x≠y→hasB gone (lk:Int)=false→fp c c.ak.length l gone (i+1) (merge f x y)∧cls (merge f x y) c.ak.length+1=cls f c.ak.length):=fun e g=>by
      have h5:=hP.join hlt (by rw [NW.o];exact Xl) (by rw [NW.o];exact Xm) (by rw [NW.o];rw [hx,hy]at e;exact e) (by rw [←hlk];exact g);rw [NW.o]at h5;rw [hx,hy];exact h5
     obtain ⟨-,-,-,k3,-⟩:=ai.at ((HA.o.ext hX));have Mn:=ae hT;have yO:=ae hX;have Lb:=ae Bj;have qK:=ae ha;have HXA:=ae hxa
     have adr:cn≤1000000:=by rw [←Bj];exact Nat.le_trans (Nv _ _) hn
     have ln:=ae (nc wr.drew b cb gone (lk:Int) ((HG.o.ext pG.o).ext hX.drew));have f_:(0:Int)≤(i:Int):=by omega
     have fU:(i:Int)<(l.length:Int):=by omega
     have bl0:(0:Int)≤(lk:Int):=by omega
     have bl1:(lk:Int)<(c.lines.length:Int):=by omega
     have bp0:(0:Int)≤(p:Int):=by omega
     have bp1:(p:Int)<(c.ak.length:Int):=by omega
     have bq0:(0:Int)≤(q:Int):=by omega
     have bq1:(q:Int)<(c.ak.length:Int):=by omega
     clear hT hX hP Bj hx hy R5 hlk g1 g2 g3 g4 hp1 hp2 hxa ha;rw [qK.o];go_wp2_with fail
     refine aB (fun w'=>w'.cell? ⟨B,3,none⟩=some (.slice c.la c.lines.length c.lc)∧w'.cell? ⟨xb,xo+lk*12+1,none⟩=some (i64 (p:Int))∧w'.cell? ⟨xb,xo+lk*12+2,none⟩=some (i64 (q:Int))∧w'.cell? ⟨L,p,none⟩=some (i64 (x:Int))∧w'.cell? ⟨L,q,none⟩=some (i64 (y:Int))) (fun w'=>True) (fun i=>false) (by kernel_rfl) (⟨k3,r1,r2,t1,t2⟩) (trivial) (fun aq ah=> ?_);refine ay 0 aq ah ?_;refine ay 1 aq ah ?_;refine ay 2 aq ah ?_;refine ay 3 aq ah ?_ (v:= .int .i64 (lk:Int));refine ay 4 aq ah ?_ (hy:=by rintro w ⟨e0,e1,e2,e3,e4⟩;have ha:=HXA.o;go_simp;try rfl);refine ay 5 aq ah ?_;refine ay 6 aq ah ?_ (v:=i64 (p:Int));refine ay 7 aq ah ?_;refine ay 8 aq ah ?_ (v:=i64 (x:Int));refine ay 9 aq ah ?_;refine ay 10 aq ah ?_;refine ay 11 aq ah ?_;refine ay 12 aq ah ?_ (v:= .int .i64 (lk:Int));refine ay 13 aq ah ?_ (hy:=by rintro w ⟨e0,e1,e2,e3,e4⟩;have ha:=HXA.o;go_simp;try rfl);refine ay 14 aq ah ?_;refine ay 15 aq ah ?_ (v:=i64 (q:Int));refine ay 16 aq ah ?_;refine ay 17 aq ah ?_ (v:=i64 (y:Int));refine ay 18 aq ah ?_ (v:=i64 (x:Int));refine ay 19 aq ah ?_ (v:=i64 (y:Int));refine ax (by kernel_rfl) ?_ _;clear aq ah;clear i0 k3 r1 r2 t1 t2;by_cases nN:x=y
     ·have hq:((x:Int)==(y:Int))=true:=by simp;omega
      have HR:=ae (R6.o nN);clear nN;go_wp2_with fail
      exact ⟨⟨i+1,f,cn,by omega,Mn.o.ext (Ext.refl wr).drew,yO.o.drew,HR.o,Lb.o,rfl,by go_num⟩,by simp only [intOf];omega⟩
     ·have hq:((x:Int)==(y:Int))=false:=by simp;omega
      rcases Bool.eq_false_or_eq_true (hasB gone (lk:Int))with NX|NX
      ·have HR:=ae (R7.o NX)
       rw [NX]at ln;clear nN NX;go_wp2_with fail
       refine ln.o.mono ?_;rintro e w1 ⟨rfl,fK⟩;rw [fK];clear fK
       go_wp2_with fail
       exact ⟨⟨i+1,f,cn,by omega,Mn.o.ext (Ext.refl wr).drew,yO.o.drew,HR.o,Lb.o,rfl,by go_num⟩,by simp only [intOf];omega⟩
      ·have HR:=ae (R8.o nN NX)
       rw [NX]at ln;obtain ⟨cm,hcm⟩: ∃cm,cm=cls (merge f x y) c.ak.length:=⟨_,rfl⟩;have HCM:=ae hcm;have Xn:cm+1=cn:=by rw [hcm,←Lb.o];exact HR.o.2
       have hwr:IntKind.i64.wrap ((cn:Int)-1)=(cm:Int):=by rw [IntKind.wrap_i64];omega
       have sL:Hid (jk wr.drew L (fun b=>if b<0 then merge f x y b else f b) c.ak.length):=(Mn.o.ext (Ext.refl wr).drew).congr fun b _=>by simp
       have HXd:=ae yO.o.drew;clear nN NX hcm Xn;go_wp2_with fail
       refine ln.o.mono ?_;rintro e w1 ⟨rfl,fK⟩;rw [fK];clear fK
       obtain ⟨wo,Dl⟩: ∃wo:World,wo=wr:=⟨_,rfl⟩;subst Dl;go_wp2_with fail
       go_loopw [67] (fun jj wl=> ∃j:Nat,j≤c.ak.length∧jk wl L (fun b=>if b<j then merge f x y b else f b) c.ak.length∧Ext W wl∧jj= .int .i64 j) (fun jj _=>c.ak.length-(intOf jj).toNat)
       case atStart=>exact ⟨0,Nat.zero_le _,sL.o,HXd.o,rfl⟩
       case round=>
        obtain ⟨j,hj,hT,hX,rfl⟩:=hrel;clear sL HXd Mn yO ln;by_cases yy:j<c.ak.length
        ·obtain ⟨c0,f0⟩:=hT.cell j yy
         have ef:(if j<j then merge f x y j else f j)=f j:=by rw [if_neg (by omega)]
         rw [ef]at c0;have b0:(0:Int)≤(j:Int):=by omega
         have b1:(j:Int)<(c.ak.length:Int):=by omega
         obtain ⟨z,hz⟩: ∃z,z=f j:=⟨_,rfl⟩;rw [←hz]at c0;by_cases UK:z=y
         ·have NY:((z:Int)==(y:Int))=true:=by simp;omega
          have mX:=ae (Dm hT (hz.symm.trans UK));have fg:=ae (hX.setCell (p:=⟨L,j,none⟩) (by have:=AD.o;exact this) (i64 (x:Int)))
          clear hT hX hz UK ef;go_wp2_with fail
          exact ⟨⟨j+1,by omega,mX.o,fg.o,by go_num⟩,by simp only [intOf];omega⟩
         ·have NY:((z:Int)==(y:Int))=false:=by simp;omega
          have mX:=ae (Dn hT (fun e=>UK (hz.trans e)));have fg:=ae hX
          clear hT hX hz UK ef;go_wp2_with fail
          exact ⟨⟨j+1,by omega,mX.o,fg.o,by go_num⟩,by simp only [intOf];omega⟩
        ·obtain rfl:j=c.ak.length:=by omega
         have mX:=ae (Dp hT);have fg:=ae hX
         clear hT hX;go_wp2_with fail
         exact ⟨⟨i+1,merge f x y,cm,by omega,mX.o,fg.o,HR.o.1,HCM.o.symm,rfl,by go_num⟩,by simp only [intOf];omega⟩
    ·obtain rfl:i=l.length:=by omega
     have HE:=ae (hP.tells.comps);rw [Bj]at HE;have fg:=ae (pG.o.trans hX);clear hT hX hP Bj;go_wp2_with fail
     go_ret;exact ⟨by rw [←HE.o];rfl,fg.o⟩
noncomputable def St.y8 (c:ai) (h:Nat) (x:bB) (i:Int) (s:St):St:=(s.at 6 i).need (!jI c h x) h 13
noncomputable def St.bK (c:ai) (h:Nat) (s:St) (n:Nat):St:=(List.range n).foldl (fun(s:St) (i:Nat)=>match c.outs[i]? with|some x=>St.y8 c h x i s|none=>s) s
noncomputable def St.xW (c:ai) (s:St) (n:Nat):St:=(List.range n).foldl (fun s h=>St.bK c h s c.outs.length) s
noncomputable def St.nZ (s:St) (c:ai):St:=St.xW c s c.hours.toNat
theorem St.ID (c:ai) (h:Nat) (s:St) (i:Nat) (hi:i<c.outs.length):St.bK c h s (i+1)=St.y8 c h c.outs[i] i (St.bK c h s i):=by
 unfold St.bK;rw [List.range_succ,List.foldl_append,List.foldl_cons,List.foldl_nil,List.getElem?_eq_getElem hi]
theorem St.uY (c:ai) (s:St) (n:Nat):St.xW c s (n+1)=St.bK c n (St.xW c s n) c.outs.length:=by
 unfold St.xW;rw [List.range_succ,List.foldl_append,List.foldl_cons,List.foldl_nil]
theorem F0 (w0 V:World) (K:Nat) (c:ai) (s:St) (hK:w0.heap.size≤K) (hV:Ext w0 V) (hc:aS w0 c) (hl:oW c) (hh:1≤c.hours∧c.hours≤24) (Ko: ∀i (hi:i<c.lines.length),(0≤c.lines[i].cU∧c.lines[i].cU<c.ak.length)∧(0≤c.lines[i].j5∧c.lines[i].j5<c.ak.length)) (h:gY V K c s):
 Calls prog 85 #[.pointer (some ⟨K,0,none⟩)] V fun e' w'=>kW V K c (s.nZ c) e' w':=by
 have J9:=h.lt;obtain ⟨Xo,Ik⟩:=hh;have hr:=hc.outs;have hle:=hr.le;have dy:=hr.cap
 rw [List.length_map]at hle;have HV:=ae hV;have et:=ae hc;have HH:=ae h;have cX:=ae hK;have qL:=ae hl;have MA:=ae Ko
 unfold St.nZ;obtain ⟨k0,-⟩:=dO h;clear hr h hc hV hK hl Ko;go_enter func85,ntmps85
 go_wp2_with fail
 clear k0;go_loopw [12] (fun ii wr=> ∃h:Nat,h≤c.hours.toNat∧gY wr K c (St.xW c s h)∧ar K V wr∧ii= .int .i64 h) (fun ii _=>c.hours.toNat-(intOf ii).toNat)
 case atStart=>exact ⟨0,Nat.zero_le _,HH.o,ar.refl _ _,rfl⟩
 case round=>
  obtain ⟨h,hi,hk,hx,rfl⟩:=hrel;clear HH;by_cases hlt:h<c.hours.toNat
  ·have th:decide ((h:Int)<c.hours)=true:=by simp;omega
   have qZ:=ae (St.uY c s h);generalize St.xW c s h=s0 at*;have hE:=hx.ext HV.o cX.o;obtain ⟨k0,k1,k2,k3,k4,k5,k6,k7⟩:=dO hk;have R9:=ae (FO w0 wr c (h:Int) hE et.o qL.o.lines);have Lc:Hid (∀x,(((comps c.ak.length (kept c (cC c h c.lines.length) x.lines (cC c h c.lines.length).length):Nat):Int)==((comps c.ak.length (kept c (cC c h c.lines.length) [] (cC c h c.lines.length).length):Nat):Int))= !jI c h x):=fun x=>yZ c (h:Int) x;have Bk:=jd c (h:Int) c.lines.length;generalize cC c (h:Int) c.lines.length=l at*;have Ld:=ae hk;have pG:=ae hx;have Ua:=ae hE
   clear hk hx hE;go_wp2_with fail
   refine R9.o.mono ?_;rintro e W1 ⟨a,cap,rfl,hI,x1,jU⟩;have Xp:=hI.le;have aaK:=hI.cap
   rw [cq]at Xp;have kX:=ae (Ua.o.trans x1);have PU:=ae (Ld.o.ext x1);have UL:Hid (∀p,a=some p→p.block≠K):=fun p hp=>by have:=jU p hp;have:=Ld.o.lt;omega
   have Xq:=Bi W1 c (et.o.ext kX.o) qL.o.ak MA.o a cap l hI Bk none 0 [] (aD.nil W1);obtain ⟨cn,Bj⟩: ∃cn,cn=comps c.ak.length (kept c l [] l.length):=⟨_,rfl⟩;rw [←Bj]at Xq;have Xr:Hid (∀x,(((comps c.ak.length (kept c l x.lines l.length):Nat):Int)==(cn:Int))= !jI c h x):=by rw [Bj];exact Lc.o
   have HCP:Hid (Calls prog 149 #[.agg (C8 c),.slice a l.length cap,.slice none 0 0] W1 fun e w'=>e= .returned (i64 (cn:Int))∧Ext W1 w'):=Xq;have Nt:=ae hI;have fJ:=ae (pG.o.trans (x1.but K));have tD:=ae Bk
   clear k0 k1 k2 k3 k4 k5 k6 k7 R9 Lc hI x1 jU Xq Bj Bk Ld pG Ua;obtain ⟨k0,k1,k2,k3,k4,k5,k6,k7⟩:=dO PU.o;go_wp2_with fail
   refine HCP.o.mono ?_;rintro e W2 ⟨rfl,x2⟩;have uA:=ae (PU.o.ext x2);have Nu:=ae (Nt.o.ext x2);have fg:=ae (fJ.o.trans (x2.but K))
   clear k0 k1 k2 k3 k4 k5 k6 k7 x2 PU Nt fJ HCP kX;obtain ⟨-,-,-,-,-,-,-,k7⟩:=dO uA.o;obtain ⟨wo,Dl⟩: ∃wo:World,wo=wr:=⟨_,rfl⟩;subst Dl;go_wp2_with fail
   clear k7;go_loopw [33] (fun ii wl=> ∃i:Nat,i≤c.outs.length∧gY wl K c (St.bK c h s0 i)∧ar K V wl∧aD wl a cap (bU l)∧ii= .int .i64 i) (fun ii _=>c.outs.length-(intOf ii).toNat)
   case atStart=>exact ⟨0,Nat.zero_le _,uA.o,fg.o,Nu.o,rfl⟩
   case round=>
    obtain ⟨i,Le,hk,hx,hI,rfl⟩:=hrel;clear uA fg Nu;by_cases NZ:i<c.outs.length
    ·have hE:=hx.ext HV.o cX.o
     have R_:=ae (St.ID c h s0 i NZ);generalize St.bK c h s0 i=s1 at*;obtain ⟨b,o,ha,c0,c1,c2,c3⟩:=(et.o.outs.ext hE).outs i NZ;have Kp:=(et.o.o c.outs[i] (List.getElem_mem NZ)).2.1;have hsp:=Xr.o c.outs[i];obtain ⟨x,jc⟩: ∃x,x=c.outs[i]:=⟨_,rfl⟩;rw [←jc]at c0 c1 c2 c3 Kp hsp R_;have Xs:=ae Kp;have Eg:=ae hk;have mS:=ae hx;have HI3:=ae hI;have PA:=ae hE
     have f_:(0:Int)≤(i:Int):=by omega
     have fU:(i:Int)<(c.outs.length:Int):=by omega
     obtain ⟨cx,UM⟩: ∃cx,cx=comps c.ak.length (kept c l x.lines l.length):=⟨_,rfl⟩;rw [←UM]at hsp;have Xt:=ae hsp
     have HPX:Hid (∀U,Ext w0 U→aD U a cap (bU l)→Calls prog 149 #[.agg (C8 c),.slice a l.length cap,.slice x.la x.lines.length x.lc] U fun e w'=>e= .returned (i64 (cx:Int))∧Ext U w'):=fun U hU hIU=>by
      rw [UM];exact Bi U c (et.o.ext hU) qL.o.ak MA.o a cap l hIU tD.o x.la x.lc x.lines (Xs.o.ext hU)
     clear hk hx hI hE jc Kp hsp UM;rw [ha];clear ha;go_upto_region 8 with fail
     obtain ⟨W3,hW3,x3,Z3,A3⟩:=aH wr 87 x.cells;rw [show wr.alloc (.cells #[.string x.name,.slice x.la x.lines.length x.lc,.bool x.bC,.slice x.ma x.moves.length x.mc] 87)=W3 from hW3.symm];obtain ⟨E,lh⟩: ∃E,E=wr.heap.size:=⟨_,rfl⟩;rw [←lh]at A3⊢;have lg:E≠K:=by have:=Eg.o.lt;omega
     have KR:=ae A3;have N0:=ae (Eg.o.ext x3);have qX:=ae (mS.o.trans (x3.but K));have HI4:=ae (HI3.o.ext x3);have N1:=ae (PA.o.trans x3)
     clear hW3 lh Z3 A3 x3 c0 c1 c2 c3 Eg mS HI3 PA;go_wp2_with fail
     refine (Aj W3 K c s1 6 i N0.o).mono ?_;rintro e W4 ⟨rfl,xH,eY⟩;have GR:=ae xH;have wm:=ae (qX.o.trans eY);have Xu:=ae (HI4.o.dA eY UL.o);have UN:=ae (eY.ext N1.o cX.o)
     have e1:W4.cell? ⟨E,1,none⟩=some (.slice x.la x.lines.length x.lc):=((KR.o.but eY lg).cell 1).trans rfl;obtain ⟨k0,k1,k2,k3,k4,k5,k6,k7⟩:=dO GR.o;clear xH eY N0 qX HI4 N1 KR;go_wp2_with fail
     refine aB (fun w'=>w'.cell? ⟨K,0,none⟩=some (i64 c.hours)∧w'.cell? ⟨K,1,none⟩=some (.slice c.ra c.aV.length c.rc)∧w'.cell? ⟨K,2,none⟩=some (.slice c.ba c.ak.length c.bc)∧w'.cell? ⟨K,3,none⟩=some (.slice c.la c.lines.length c.lc)∧w'.cell? ⟨K,4,none⟩=some (.slice c.ua c.au.length c.uc)∧w'.cell? ⟨K,5,none⟩=some (.slice c.sa c.stores.length c.sc)∧w'.cell? ⟨K,6,none⟩=some (.slice c.ta c.aL.length c.tc)∧w'.cell? ⟨K,7,none⟩=some (.slice c.oa c.outs.length c.oc)∧w'.cell? ⟨E,1,none⟩=some (.slice x.la x.lines.length x.lc)) (fun w'=>True) (fun i=>false) (by kernel_rfl) (⟨k0,k1,k2,k3,k4,k5,k6,k7,e1⟩) (trivial) (fun aq ah=> ?_);refine ay 0 aq ah ?_;refine ay 1 aq ah ?_;refine ay 2 aq ah ?_;refine ay 3 aq ah ?_;refine ay 4 aq ah ?_ (v:= .agg (C8 c));refine ay 5 aq ah ?_;refine ay 6 aq ah ?_;refine ay 7 aq ah ?_;refine ay 9 aq ah ?_ (v:=i64 (cn:Int));refine ay 11 aq ah ?_ (v:=i64 (h:Int));refine dX 8 rfl (fun Kc hK=> ?_);go_simp;refine (HPX.o W4.drew (UN.o.trans (Ext.refl _).drew) (Xu.o.ext (Ext.refl _).drew)).mono ?_;rintro e z1 ⟨rfl,xz⟩;refine hK.o _ _ (⟨aj ((Ext.refl W4).drew.trans xz) k0,aj ((Ext.refl W4).drew.trans xz) k1,aj ((Ext.refl W4).drew.trans xz) k2,aj ((Ext.refl W4).drew.trans xz) k3,aj ((Ext.refl W4).drew.trans xz) k4,aj ((Ext.refl W4).drew.trans xz) k5,aj ((Ext.refl W4).drew.trans xz) k6,aj ((Ext.refl W4).drew.trans xz) k7,aj ((Ext.refl W4).drew.trans xz) e1⟩) (trivial) (fun aq ah=> ?_);clear hK Kc;try simp only [sS]
     refine ay 10 aq ah ?_ (v:= .bool ((cx:Int)==(cn:Int)));refine dX 12 rfl (fun Kc hK=> ?_);go_simp;refine (eF z1 K c (s1.at 6 i) ((cx:Int)==(cn:Int)) h 13 (GR.o.ext ((Ext.refl W4).drew.trans xz))).mono ?_;rintro e W6 ⟨rfl,y_,kU⟩;refine hK.o _ _ (⟨(dO y_).1,(dO y_).2.1,(dO y_).2.2.1,(dO y_).2.2.2.1,(dO y_).2.2.2.2.1,(dO y_).2.2.2.2.2.1,(dO y_).2.2.2.2.2.2.1,(dO y_).2.2.2.2.2.2.2,bL (aj ((Ext.refl W4).drew.trans xz) e1) kU lg⟩) (trivial) (fun aq ah=> ?_);clear hK Kc;try simp only [sS]
     refine ax (by kernel_rfl) ?_ _;clear aq ah;have GS:ar K W4 W6:=(((Ext.refl W4).drew.trans xz).but K).trans kU;have hK7:gY W6 K c ((s1.at 6 i).need (!jI c h x) h 13):=by rw [←Xt.o];exact y_
     have HR:=ae (And.intro hK7 (And.intro (wm.o.trans GS) (Xu.o.dA GS UL.o)));clear y_ kU GS hK7 xz e1 k0 k1 k2 k3 k4 k5 k6 k7 GR wm Xu UN;go_wp2_with fail
     exact ⟨⟨i+1,by omega,by rw [R_.o];exact HR.o.1,HR.o.2.1,HR.o.2.2,by go_num⟩,by simp only [intOf];omega⟩
    ·obtain rfl:i=c.outs.length:=by omega
     rw [←qZ.o]at hk;have HR:=ae (And.intro hk hx);clear hk hx hI;go_wp2_with fail
     exact ⟨⟨h+1,by omega,HR.o.1,HR.o.2,by go_num⟩,by simp only [intOf];omega⟩
  ·obtain rfl:h=c.hours.toNat:=by omega
   have th:decide (((c.hours.toNat:Nat):Int)<c.hours)=false:=by simp;omega
   have HR:=ae (And.intro hk hx);clear hk hx;go_wp2_with fail
   exact bodyPost_end (v:= .tuple #[]) (by simp [results,results85,go_sem]) rfl ⟨rfl,HR.o.1,HR.o.2⟩
end Go.Proofs.YtkpngkdgphojlaaGreat
