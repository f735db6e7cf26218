/- Texts of the proof. -/
import Derived.Test.YtkpngkdgphojlaaGreatCf20
set_option linter.all false
set_option maxHeartbeats 2000000
set_option maxRecDepth 100000
namespace Go.Proofs.YtkpngkdgphojlaaGreat
open Go.Proofs.Tryz
open Go.RowKit
theorem DB {f:Nat→Nat} {x y j:Nat} {w:World} {L n:Nat} (h:jU w L (fun b=>if b<j then merge f x y b else f b) n) (e:f j=y):jU (w.setCell ⟨L,j,none⟩ (i64 (x:Int))) L (fun b=>if b<j+1 then merge f x y b else f b) n:=
 (h.set j x).congr fun b _=>by
   unfold gT;by_cases q:b=j
   ·subst q;rw [if_pos rfl,if_pos (by omega)];unfold merge;rw [if_pos e]
   ·rw [if_neg q]
    show(if b<j then merge f x y b else f b)=(if b<j+1 then merge f x y b else f b);by_cases q2:b<j
    ·rw [if_pos q2,if_pos (by omega)]
    ·rw [if_neg q2,if_neg (by omega)]
theorem DC {f:Nat→Nat} {x y j:Nat} {w:World} {L n:Nat} (h:jU w L (fun b=>if b<j then merge f x y b else f b) n) (e:f j≠y):jU w L (fun b=>if b<j+1 then merge f x y b else f b) n:=
 h.congr fun b _=>by
  show(if b<j then merge f x y b else f b)=(if b<j+1 then merge f x y b else f b);by_cases q:b=j
  ·subst q;rw [if_neg (by omega),if_pos (by omega)];unfold merge;rw [if_neg e]
  ·by_cases q2:b<j
   ·rw [if_pos q2,if_pos (by omega)]
   ·rw [if_neg q2,if_neg (by omega)]
theorem DD {f:Nat→Nat} {x y:Nat} {w:World} {L n:Nat} (h:jU w L (fun b=>if b<n then merge f x y b else f b) n):jU w L (merge f x y) n:=h.congr fun b hb=>by simp [hb]
theorem Bw (V:World) (c:ai) (hc:a_ V c) (hn:c.aj.length≤1000000) (E5: ∀i (hi:i<c.lines.length),(0≤c.lines[i].cR∧c.lines[i].cR<c.aj.length)∧(0≤c.lines[i].kq∧c.lines[i].kq<c.aj.length))
 (a:Option Addr) (ca:Nat) (l:List Nat) (hl:aI V a ca (dE l)) (pJ: ∀i∈l,i<c.lines.length) (b:Option Addr) (cb:Nat) (gone:List Int) (hg:aI V b cb gone):
 Calls prog 149 #[.agg (C8 c),.slice a l.length ca,.slice b gone.length cb] V fun e w'=>e= .returned (i64 ((comps c.aj.length (kept c l gone l.length):Nat):Int))∧Ext V w':=by
 try unfold C8
 have hle:=hl.le;have dQ:=hl.cap
 rw [dB]at hle;have Qb:=hc.lines.le;have hcc:=hc.lines.cap
 rw [List.length_map]at Qb;have f_:=ae hc;have HL:=ae hl;have nS:=ae pJ;have HG:=ae hg;have KO:=ae E5
 clear hc hl pJ hg E5;go_enter func149,ntmps149
 go_upto_region 1 with fail
 obtain ⟨W,hW,x0,Z0,A0⟩:=aX V 32 c.cells;rw [show V.alloc (.cells (C8 c) 32)=W from hW.symm];clear hW;have pZ:=ae x0;obtain ⟨B,hB⟩: ∃B,B=V.heap.size:=⟨_,rfl⟩;rw [←hB]at A0⊢;have HA:=ae A0;obtain ⟨-,-,k2,-⟩:=ai.at A0;have EN:=ae hB;clear A0 x0 Z0 hB;go_wp2_with (at_make;refine bO _ rfl _ _ 22 rfl 3 (.int .i64 0) 8 underlying22 Tryz.info_int rfl _ _ c.aj.length rfl rfl rfl rfl (by omega) (by omega) ?_;intro w1 gH hx1 hz1)
 obtain ⟨L,hL⟩: ∃L,L=W.heap.size:=⟨_,rfl⟩;rw [←hL]at gH⊢;have Bp:Hid (W.heap.size≤L):=by show _≤_;omega
 have zj:=ae (jU.zero gH.o);have eE:=ae hx1
 clear gH hx1 hz1 hL k2;go_loopw [21] (fun ii wr=> ∃k:Nat,k≤c.aj.length∧jU wr L (fun b=>if b<k then b else 0) c.aj.length∧Ext W wr∧ii= .int .i64 k) (fun ii _=>c.aj.length-(intOf ii).toNat)
 case atStart=>exact ⟨0,Nat.zero_le _,zj.o,eE.o,rfl⟩
 case round=>
  obtain ⟨k,hk,hT,hX,rfl⟩:=hrel;clear zj eE;by_cases hlt:k<c.aj.length
  ·obtain ⟨c0,f0⟩:=hT.cell k hlt
   have p7:=ae hT.next;have ez:=ae (hX.setCell (p:=⟨L,k,none⟩) Bp.o (i64 (k:Int)))
   have b0:(0:Int)≤(k:Int):=by omega
   have b1:(k:Int)<(c.aj.length:Int):=by omega
   clear hT hX;go_wp2_with fail
   exact ⟨⟨k+1,by omega,p7.o,ez.o,by go_num⟩,by simp only [intOf];omega⟩
  ·obtain rfl:k=c.aj.length:=by omega
   have p7:=ae hT.full;have ez:=ae hX
   have GI:=ae (OE c.aj.length);clear hT hX;go_wp2_with fail
   go_loopw [9,33] (fun cv ii wl=> ∃(i:Nat) (f:Nat→Nat) (cn:Nat),i≤l.length∧jU wl L f c.aj.length∧Ext W wl∧gi c c.aj.length l gone i f∧cls f c.aj.length=cn∧cv= .int .i64 cn∧ii= .int .i64 i) (fun _ ii _=>l.length-(intOf ii).toNat)
   case atStart=>exact ⟨0,fun b=>b,c.aj.length,Nat.zero_le _,p7.o,ez.o,gi.zero c _ l gone,GI.o,rfl,rfl⟩
   case round=>
    obtain ⟨i,f,cn,hi,hT,hX,hP,CP,rfl,rfl⟩:=hrel;clear p7 ez GI;by_cases hlt:i<l.length
    ·obtain ⟨lk,hlk⟩: ∃lk,lk=l[i]:=⟨_,rfl⟩
     obtain ⟨lo,ab,ha,i0⟩: ∃(ao:Nat) (ab:Nat),a=some ⟨ab,ao,none⟩∧wr.cell? ⟨ab,ao+i,none⟩=some (i64 (lk:Int)):=by
      obtain ⟨ab,ao,hab,i0⟩:=((HL.o.ext pZ.o).ext hX).cell i (by rw [dB];exact hlt);have e0:(dE l)[i]'(by rw [dB];exact hlt)=((l[i]:Nat):Int):=by simp [dE]
      rw [e0,←hlk]at i0;exact ⟨ao,ab,hab,i0⟩
     have OG:lk<c.lines.length:=by rw [hlk];exact nS.o _ (List.getElem_mem hlt)
     obtain ⟨xb,xo,hxa,-,r1,r2,-⟩:=((f_.o.ext pZ.o).ext hX).lines.lines lk OG;obtain ⟨⟨g1,g2⟩,g3,g4⟩:=KO.o lk OG;obtain ⟨⟨p,q⟩,SD⟩: ∃pq,pq=lp c lk:=⟨_,rfl⟩
     have hp:c.lines[lk].cR=(p:Int)∧c.lines[lk].kq=(q:Int)∧p<c.aj.length∧q<c.aj.length:=by
      unfold lp at SD;rw [o0 OG]at SD;simp only [Prod.mk.injEq]at SD;omega
     obtain ⟨hp1,hp2,XS,Vm⟩:=hp;rw [hp1]at r1;rw [hp2]at r2;obtain ⟨t1,-⟩:=hT.cell p XS;obtain ⟨t2,-⟩:=hT.cell q Vm;obtain ⟨x,hx⟩: ∃x,x=f p:=⟨_,rfl⟩;obtain ⟨y,hy⟩: ∃y,y=f q:=⟨_,rfl⟩;rw [←hx]at t1;rw [←hy]at t2;have OH:Hid (lp c l[i]=(p,q)):=by show _=_;rw [←hlk];exact SD.symm
     have SE:Hid (x=y→gi c c.aj.length l gone (i+1) f):=fun e=>hP.same hlt (by rw [OH.o];exact XS) (by rw [OH.o];exact Vm) (by rw [OH.o];rw [hx,hy]at e;exact e);have SF:Hid (hasB gone (lk:Int)=true→gi c c.aj.length l gone (i+1) f):=fun e=>hP.gone hlt (by rw [←hlk];exact e)
     have SG:Hid (x≠y→hasB gone (lk:Int)=false→gi c c.aj.length l gone (i+1) (merge f x y)∧cls (merge f x y) c.aj.length+1=cls f c.aj.length):=fun e g=>by
      have h5:=hP.join hlt (by rw [OH.o];exact XS) (by rw [OH.o];exact Vm) (by rw [OH.o];rw [hx,hy]at e;exact e) (by rw [←hlk];exact g);rw [OH.o]at h5;rw [hx,hy];exact h5
     obtain ⟨-,-,-,k3,-⟩:=ai.at ((HA.o.ext hX));have Na:=ae hT;have zy:=ae hX;have LB:=ae CP;have uF:=ae ha;have HXA:=ae hxa
     have adX:cn≤1000000:=by rw [←CP];exact Nat.le_trans (OB _ _) hn
     have mE:=ae (tI wr.drew b cb gone (lk:Int) ((HG.o.ext pZ.o).ext hX.drew));have jS:(0:Int)≤(i:Int):=by omega
     have jI:(i:Int)<(l.length:Int):=by omega
     have bl0:(0:Int)≤(lk:Int):=by omega
     have bl1:(lk:Int)<(c.lines.length:Int):=by omega
     have bp0:(0:Int)≤(p:Int):=by omega
     have bp1:(p:Int)<(c.aj.length:Int):=by omega
     have bq0:(0:Int)≤(q:Int):=by omega
     have bq1:(q:Int)<(c.aj.length:Int):=by omega
     clear hT hX hP CP hx hy SD hlk g1 g2 g3 g4 hp1 hp2 hxa ha;rw [uF.o];go_wp2_with fail
     refine aL (fun w'=>w'.cell? ⟨B,3,none⟩=some (.slice c.la c.lines.length c.lc)∧w'.cell? ⟨xb,xo+lk*12+1,none⟩=some (i64 (p:Int))∧w'.cell? ⟨xb,xo+lk*12+2,none⟩=some (i64 (q:Int))∧w'.cell? ⟨L,p,none⟩=some (i64 (x:Int))∧w'.cell? ⟨L,q,none⟩=some (i64 (y:Int))) (fun w'=>True) (fun i=>false) (by kernel_rfl) (⟨k3,r1,r2,t1,t2⟩) (trivial) (fun ay ah=> ?_);refine aF 0 ay ah ?_;refine aF 1 ay ah ?_;refine aF 2 ay ah ?_;refine aF 3 ay ah ?_ (v:= .int .i64 (lk:Int));refine aF 4 ay ah ?_ (hy:=by rintro w ⟨e0,e1,e2,e3,e4⟩;have ha:=HXA.o;go_simp;try rfl);refine aF 5 ay ah ?_;refine aF 6 ay ah ?_ (v:=i64 (p:Int));refine aF 7 ay ah ?_;refine aF 8 ay ah ?_ (v:=i64 (x:Int));refine aF 9 ay ah ?_;refine aF 10 ay ah ?_;refine aF 11 ay ah ?_;refine aF 12 ay ah ?_ (v:= .int .i64 (lk:Int));refine aF 13 ay ah ?_ (hy:=by rintro w ⟨e0,e1,e2,e3,e4⟩;have ha:=HXA.o;go_simp;try rfl);refine aF 14 ay ah ?_;refine aF 15 ay ah ?_ (v:=i64 (q:Int));refine aF 16 ay ah ?_;refine aF 17 ay ah ?_ (v:=i64 (y:Int));refine aF 18 ay ah ?_ (v:=i64 (x:Int));refine aF 19 ay ah ?_ (v:=i64 (y:Int));refine aD (by kernel_rfl) ?_ _;clear ay ah;clear i0 k3 r1 r2 t1 t2;by_cases pF:x=y
     ·have hq:((x:Int)==(y:Int))=true:=by simp;omega
      have HR:=ae (SE.o pF);clear pF;go_wp2_with fail
      exact ⟨⟨i+1,f,cn,by omega,Na.o.ext (Ext.refl wr).drew,zy.o.drew,HR.o,LB.o,rfl,by go_num⟩,by simp only [intOf];omega⟩
     ·have hq:((x:Int)==(y:Int))=false:=by simp;omega
      rcases Bool.eq_false_or_eq_true (hasB gone (lk:Int))with OI|OI
      ·have HR:=ae (SF.o OI)
       rw [OI]at mE;clear pF OI;go_wp2_with fail
       refine mE.o.mono ?_;rintro e w1 ⟨rfl,gH⟩;rw [gH];clear gH
       go_wp2_with fail
       exact ⟨⟨i+1,f,cn,by omega,Na.o.ext (Ext.refl wr).drew,zy.o.drew,HR.o,LB.o,rfl,by go_num⟩,by simp only [intOf];omega⟩
      ·have HR:=ae (SG.o pF OI)
       rw [OI]at mE;obtain ⟨cm,hcm⟩: ∃cm,cm=cls (merge f x y) c.aj.length:=⟨_,rfl⟩;have HCM:=ae hcm;have XT:cm+1=cn:=by rw [hcm,←LB.o];exact HR.o.2
       have hwr:IntKind.i64.wrap ((cn:Int)-1)=(cm:Int):=by rw [IntKind.wrap_i64];omega
       have HT0:Hid (jU wr.drew L (fun b=>if b<0 then merge f x y b else f b) c.aj.length):=(Na.o.ext (Ext.refl wr).drew).congr fun b _=>by simp
       have HXd:=ae zy.o.drew;clear pF OI hcm XT;go_wp2_with fail
       refine mE.o.mono ?_;rintro e w1 ⟨rfl,gH⟩;rw [gH];clear gH
       obtain ⟨wo,OJ⟩: ∃wo:World,wo=wr:=⟨_,rfl⟩;subst OJ;go_wp2_with fail
       go_loopw [67] (fun jj wl=> ∃j:Nat,j≤c.aj.length∧jU wl L (fun b=>if b<j then merge f x y b else f b) c.aj.length∧Ext W wl∧jj= .int .i64 j) (fun jj _=>c.aj.length-(intOf jj).toNat)
       case atStart=>exact ⟨0,Nat.zero_le _,HT0.o,HXd.o,rfl⟩
       case round=>
        obtain ⟨j,hj,hT,hX,rfl⟩:=hrel;clear HT0 HXd Na zy mE;by_cases yY:j<c.aj.length
        ·obtain ⟨c0,f0⟩:=hT.cell j yY
         have ef:(if j<j then merge f x y j else f j)=f j:=by rw [if_neg (by omega)]
         rw [ef]at c0;have b0:(0:Int)≤(j:Int):=by omega
         have b1:(j:Int)<(c.aj.length:Int):=by omega
         obtain ⟨z,hz⟩: ∃z,z=f j:=⟨_,rfl⟩;rw [←hz]at c0;by_cases Vn:z=y
         ·have Nc:((z:Int)==(y:Int))=true:=by simp;omega
          have p7:=ae (DB hT (hz.symm.trans Vn));have ez:=ae (hX.setCell (p:=⟨L,j,none⟩) (by have:=Bp.o;exact this) (i64 (x:Int)))
          clear hT hX hz Vn ef;go_wp2_with fail
          exact ⟨⟨j+1,by omega,p7.o,ez.o,by go_num⟩,by simp only [intOf];omega⟩
         ·have Nc:((z:Int)==(y:Int))=false:=by simp;omega
          have p7:=ae (DC hT (fun e=>Vn (hz.trans e)));have ez:=ae hX
          clear hT hX hz Vn ef;go_wp2_with fail
          exact ⟨⟨j+1,by omega,p7.o,ez.o,by go_num⟩,by simp only [intOf];omega⟩
        ·obtain rfl:j=c.aj.length:=by omega
         have p7:=ae (DD hT);have ez:=ae hX
         clear hT hX;go_wp2_with fail
         exact ⟨⟨i+1,merge f x y,cm,by omega,p7.o,ez.o,HR.o.1,HCM.o.symm,rfl,by go_num⟩,by simp only [intOf];omega⟩
    ·obtain rfl:i=l.length:=by omega
     have HE:=ae (hP.tells.comps);rw [CP]at HE;have ez:=ae (pZ.o.trans hX);clear hT hX hP CP;go_wp2_with fail
     go_ret;exact ⟨by rw [←HE.o];rfl,ez.o⟩
noncomputable def St.zD (c:ai) (h:Nat) (x:aY) (i:Int) (s:St):St:=(s.at 6 i).need (!kC c h x) h 13
noncomputable def St.LC (c:ai) (h:Nat) (s:St) (n:Nat):St:=(List.range n).foldl (fun(s:St) (i:Nat)=>match c.outs[i]? with|some x=>St.zD c h x i s|none=>s) s
noncomputable def St.yw (c:ai) (s:St) (n:Nat):St:=(List.range n).foldl (fun s h=>St.LC c h s c.outs.length) s
noncomputable def St.o9 (s:St) (c:ai):St:=St.yw c s c.hours.toNat
theorem St.Jf (c:ai) (h:Nat) (s:St) (i:Nat) (hi:i<c.outs.length):St.LC c h s (i+1)=St.zD c h c.outs[i] i (St.LC c h s i):=by
 unfold St.LC;rw [List.range_succ,List.foldl_append,List.foldl_cons,List.foldl_nil,List.getElem?_eq_getElem hi]
theorem St.vF (c:ai) (s:St) (n:Nat):St.yw c s (n+1)=St.LC c n (St.yw c s n) c.outs.length:=by
 unfold St.yw;rw [List.range_succ,List.foldl_append,List.foldl_cons,List.foldl_nil]
theorem GJ (w0 V:World) (K:Nat) (c:ai) (s:St) (hK:w0.heap.size≤K) (hV:Ext w0 V) (hc:a_ w0 c) (hl:oA c) (hh:1≤c.hours∧c.hours≤24) (E5: ∀i (hi:i<c.lines.length),(0≤c.lines[i].cR∧c.lines[i].cR<c.aj.length)∧(0≤c.lines[i].kq∧c.lines[i].kq<c.aj.length)) (h:iN V K c s):
 Calls prog 85 #[.pointer (some ⟨K,0,none⟩)] V fun e' w'=>mq V K c (s.o9 c) e' w':=by
 have KF:=h.lt;obtain ⟨hh1,UU⟩:=hh;have hr:=hc.outs;have hle:=hr.le;have dQ:=hr.cap
 rw [List.length_map]at hle;have HV:=ae hV;have f_:=ae hc;have HH:=ae h;have df:=ae hK;have lD:=ae hl;have KO:=ae E5
 unfold St.o9;obtain ⟨k0,-⟩:=eC h;clear hr h hc hV hK hl E5;go_enter func85,ntmps85
 go_wp2_with fail
 clear k0;go_loopw [12] (fun ii wr=> ∃h:Nat,h≤c.hours.toNat∧iN wr K c (St.yw c s h)∧ar K V wr∧ii= .int .i64 h) (fun ii _=>c.hours.toNat-(intOf ii).toNat)
 case atStart=>exact ⟨0,Nat.zero_le _,HH.o,ar.refl _ _,rfl⟩
 case round=>
  obtain ⟨h,hi,hk,hx,rfl⟩:=hrel;clear HH;by_cases hlt:h<c.hours.toNat
  ·have th:decide ((h:Int)<c.hours)=true:=by simp;omega
   have sG:=ae (St.vF c s h);generalize St.yw c s h=s0 at*;have hE:=hx.ext HV.o df.o;obtain ⟨k0,k1,k2,k3,k4,k5,k6,k7⟩:=eC hk;have SH:=ae (GH w0 wr c (h:Int) hE f_.o lD.o.lines);have LD:Hid (∀x,(((comps c.aj.length (kept c (cX c h c.lines.length) x.lines (cX c h c.lines.length).length):Nat):Int)==((comps c.aj.length (kept c (cX c h c.lines.length) [] (cX c h c.lines.length).length):Nat):Int))= !kC c h x):=fun x=>zC c (h:Int) x;have Bx:=jL c (h:Int) c.lines.length;generalize cX c (h:Int) c.lines.length=l at*;have LF:=ae hk;have pZ:=ae hx;have UM:=ae hE
   clear hk hx hE;go_wp2_with fail
   refine SH.o.mono ?_;rintro e W1 ⟨a,cap,rfl,hI,x1,jm⟩;have XU:=hI.le;have abm:=hI.cap
   rw [dB]at XU;have mr:=ae (UM.o.trans x1);have Qt:=ae (LF.o.ext x1);have Vo:Hid (∀p,a=some p→p.block≠K):=fun p hp=>by have:=jm p hp;have:=LF.o.lt;omega
   have XV:=Bw W1 c (f_.o.ext mr.o) lD.o.aj KO.o a cap l hI Bx none 0 [] (aI.nil W1);obtain ⟨cn,CP⟩: ∃cn,cn=comps c.aj.length (kept c l [] l.length):=⟨_,rfl⟩;rw [←CP]at XV;have XW:Hid (∀x,(((comps c.aj.length (kept c l x.lines l.length):Nat):Int)==(cn:Int))= !kC c h x):=by rw [CP];exact LD.o
   have HCP:Hid (Calls prog 149 #[.agg (C8 c),.slice a l.length cap,.slice none 0 0] W1 fun e w'=>e= .returned (i64 (cn:Int))∧Ext W1 w'):=XV;have Oz:=ae hI;have eE:=ae (pZ.o.trans (x1.but K));have uk:=ae Bx
   clear k0 k1 k2 k3 k4 k5 k6 k7 SH LD hI x1 jm XV CP Bx LF pZ UM;obtain ⟨k0,k1,k2,k3,k4,k5,k6,k7⟩:=eC Qt.o;go_wp2_with fail
   refine HCP.o.mono ?_;rintro e W2 ⟨rfl,x2⟩;have ve:=ae (Qt.o.ext x2);have OA:=ae (Oz.o.ext x2);have ez:=ae (eE.o.trans (x2.but K))
   clear k0 k1 k2 k3 k4 k5 k6 k7 x2 Qt Oz eE HCP mr;obtain ⟨-,-,-,-,-,-,-,k7⟩:=eC ve.o;obtain ⟨wo,OJ⟩: ∃wo:World,wo=wr:=⟨_,rfl⟩;subst OJ;go_wp2_with fail
   clear k7;go_loopw [33] (fun ii wl=> ∃i:Nat,i≤c.outs.length∧iN wl K c (St.LC c h s0 i)∧ar K V wl∧aI wl a cap (dE l)∧ii= .int .i64 i) (fun ii _=>c.outs.length-(intOf ii).toNat)
   case atStart=>exact ⟨0,Nat.zero_le _,ve.o,ez.o,OA.o,rfl⟩
   case round=>
    obtain ⟨i,Qu,hk,hx,hI,rfl⟩:=hrel;clear ve ez OA;by_cases GK:i<c.outs.length
    ·have hE:=hx.ext HV.o df.o
     have HTI:=ae (St.Jf c h s0 i GK);generalize St.LC c h s0 i=s1 at*;obtain ⟨b,o,ha,c0,c1,c2,c3⟩:=(f_.o.outs.ext hE).outs i GK;have KP:=(f_.o.o c.outs[i] (List.getElem_mem GK)).2.1;have hsp:=XW.o c.outs[i];obtain ⟨x,uj⟩: ∃x,x=c.outs[i]:=⟨_,rfl⟩;rw [←uj]at c0 c1 c2 c3 KP hsp HTI;have Jg:=ae KP;have Bg:=ae hk;have kX:=ae hx;have HI3:=ae hI;have Qd:=ae hE
     have jS:(0:Int)≤(i:Int):=by omega
     have jI:(i:Int)<(c.outs.length:Int):=by omega
     obtain ⟨cx,H8⟩: ∃cx,cx=comps c.aj.length (kept c l x.lines l.length):=⟨_,rfl⟩;rw [←H8]at hsp;have XX:=ae hsp
     have HPX:Hid (∀U,Ext w0 U→aI U a cap (dE l)→Calls prog 149 #[.agg (C8 c),.slice a l.length cap,.slice x.la x.lines.length x.lc] U fun e w'=>e= .returned (i64 (cx:Int))∧Ext U w'):=fun U hU hIU=>by
      rw [H8];exact Bw U c (f_.o.ext hU) lD.o.aj KO.o a cap l hIU uk.o x.la x.lc x.lines (Jg.o.ext hU)
     clear hk hx hI hE uj KP hsp H8;rw [ha];clear ha;go_upto_region 8 with fail
     obtain ⟨W3,hW3,x3,Z3,A3⟩:=aX wr 87 x.cells;rw [show wr.alloc (.cells #[.string x.name,.slice x.la x.lines.length x.lc,.bool x.bI,.slice x.ma x.moves.length x.mc] 87)=W3 from hW3.symm];obtain ⟨E,nP⟩: ∃E,E=wr.heap.size:=⟨_,rfl⟩;rw [←nP]at A3⊢;have mC:E≠K:=by have:=Bg.o.lt;omega
     have Li:=ae A3;have OL:=ae (Bg.o.ext x3);have qI:=ae (kX.o.trans (x3.but K));have HI4:=ae (HI3.o.ext x3);have SJ:=ae (Qd.o.trans x3)
     clear hW3 nP Z3 A3 x3 c0 c1 c2 c3 Bg kX HI3 Qd;go_wp2_with fail
     refine (AQ W3 K c s1 6 i OL.o).mono ?_;rintro e W4 ⟨rfl,yl,dY⟩;have HJ:=ae yl;have vp:=ae (qI.o.trans dY);have XY:=ae (HI4.o.dC dY Vo.o);have Vp:=ae (dY.ext SJ.o df.o)
     have e1:W4.cell? ⟨E,1,none⟩=some (.slice x.la x.lines.length x.lc):=((Li.o.but dY mC).cell 1).trans rfl;obtain ⟨k0,k1,k2,k3,k4,k5,k6,k7⟩:=eC HJ.o;clear yl dY OL qI HI4 SJ Li;go_wp2_with fail
     refine aL (fun w'=>w'.cell? ⟨K,0,none⟩=some (i64 c.hours)∧w'.cell? ⟨K,1,none⟩=some (.slice c.ra c.aA.length c.rc)∧w'.cell? ⟨K,2,none⟩=some (.slice c.ba c.aj.length c.bc)∧w'.cell? ⟨K,3,none⟩=some (.slice c.la c.lines.length c.lc)∧w'.cell? ⟨K,4,none⟩=some (.slice c.ua c.aq.length c.uc)∧w'.cell? ⟨K,5,none⟩=some (.slice c.sa c.stores.length c.sc)∧w'.cell? ⟨K,6,none⟩=some (.slice c.ta c.aB.length c.tc)∧w'.cell? ⟨K,7,none⟩=some (.slice c.oa c.outs.length c.oc)∧w'.cell? ⟨E,1,none⟩=some (.slice x.la x.lines.length x.lc)) (fun w'=>True) (fun i=>false) (by kernel_rfl) (⟨k0,k1,k2,k3,k4,k5,k6,k7,e1⟩) (trivial) (fun ay ah=> ?_);refine aF 0 ay ah ?_;refine aF 1 ay ah ?_;refine aF 2 ay ah ?_;refine aF 3 ay ah ?_;refine aF 4 ay ah ?_ (v:= .agg (C8 c));refine aF 5 ay ah ?_;refine aF 6 ay ah ?_;refine aF 7 ay ah ?_;refine aF 9 ay ah ?_ (v:=i64 (cn:Int));refine aF 11 ay ah ?_ (v:=i64 (h:Int));refine fp 8 rfl (fun Kc hK=> ?_);go_simp;refine (HPX.o W4.drew (Vp.o.trans (Ext.refl _).drew) (XY.o.ext (Ext.refl _).drew)).mono ?_;rintro e z1 ⟨rfl,xz⟩;refine hK.o _ _ (⟨ak ((Ext.refl W4).drew.trans xz) k0,ak ((Ext.refl W4).drew.trans xz) k1,ak ((Ext.refl W4).drew.trans xz) k2,ak ((Ext.refl W4).drew.trans xz) k3,ak ((Ext.refl W4).drew.trans xz) k4,ak ((Ext.refl W4).drew.trans xz) k5,ak ((Ext.refl W4).drew.trans xz) k6,ak ((Ext.refl W4).drew.trans xz) k7,ak ((Ext.refl W4).drew.trans xz) e1⟩) (trivial) (fun ay ah=> ?_);clear hK Kc;try simp only [sS]
     refine aF 10 ay ah ?_ (v:= .bool ((cx:Int)==(cn:Int)));refine fp 12 rfl (fun Kc hK=> ?_);go_simp;refine (eT z1 K c (s1.at 6 i) ((cx:Int)==(cn:Int)) h 13 (HJ.o.ext ((Ext.refl W4).drew.trans xz))).mono ?_;rintro e W6 ⟨rfl,zE,jB⟩;refine hK.o _ _ (⟨(eC zE).1,(eC zE).2.1,(eC zE).2.2.1,(eC zE).2.2.2.1,(eC zE).2.2.2.2.1,(eC zE).2.2.2.2.2.1,(eC zE).2.2.2.2.2.2.1,(eC zE).2.2.2.2.2.2.2,cK (ak ((Ext.refl W4).drew.trans xz) e1) jB mC⟩) (trivial) (fun ay ah=> ?_);clear hK Kc;try simp only [sS]
     refine aD (by kernel_rfl) ?_ _;clear ay ah;have nZ:ar K W4 W6:=(((Ext.refl W4).drew.trans xz).but K).trans jB;have hK7:iN W6 K c ((s1.at 6 i).need (!kC c h x) h 13):=by rw [←XX.o];exact zE
     have HR:=ae (And.intro hK7 (And.intro (vp.o.trans nZ) (XY.o.dC nZ Vo.o)));clear zE jB nZ hK7 xz e1 k0 k1 k2 k3 k4 k5 k6 k7 HJ vp XY Vp;go_wp2_with fail
     exact ⟨⟨i+1,by omega,by rw [HTI.o];exact HR.o.1,HR.o.2.1,HR.o.2.2,by go_num⟩,by simp only [intOf];omega⟩
    ·obtain rfl:i=c.outs.length:=by omega
     rw [←sG.o]at hk;have HR:=ae (And.intro hk hx);clear hk hx hI;go_wp2_with fail
     exact ⟨⟨h+1,by omega,HR.o.1,HR.o.2,by go_num⟩,by simp only [intOf];omega⟩
  ·obtain rfl:h=c.hours.toNat:=by omega
   have th:decide (((c.hours.toNat:Nat):Int)<c.hours)=false:=by simp;omega
   have HR:=ae (And.intro hk hx);clear hk hx;go_wp2_with fail
   exact bodyPost_end (v:= .tuple #[]) (by simp [results,results85,go_sem]) rfl ⟨rfl,HR.o.1,HR.o.2⟩
end Go.Proofs.YtkpngkdgphojlaaGreat
