/- Texts of the proof. -/
import Derived.Test.YtfokdakioeoniaaGreatCj32
set_option linter.all false
set_option maxHeartbeats 2000000
set_option maxRecDepth 100000
namespace Go.Proofs.YtfokdakioeoniaaGreat
open Go.Proofs.Tryz
open Go.RowKit
theorem Jl {f:Nat->Nat} {x y j:Nat} {w:World} {L n:Nat} (h:ot w L (λb=>if b<j then merge f x y b else f b) n) (e:f j=y):ot (w.setCell ⟨L,j,none⟩ (i64 (x:Int))) L (λb=>if b<j+1 then merge f x y b else f b) n:=
 (h.set j x).congr λb _=>by
   unfold nH;by_cases q:b=j
   .subst q;rw [if_pos rfl,if_pos ae];unfold merge;rw [if_pos e]
   .rw [if_neg q]
    show(if b<j then merge f x y b else f b)=(if b<j+1 then merge f x y b else f b);by_cases q2:b<j
    .rw [if_pos q2,if_pos ae]
    .rw [if_neg q2,if_neg ae]
theorem Jm {f:Nat->Nat} {x y j:Nat} {w:World} {L n:Nat} (h:ot w L (λb=>if b<j then merge f x y b else f b) n) (e:f j≠y):ot w L (λb=>if b<j+1 then merge f x y b else f b) n:=
 h.congr λb _=>by
  show(if b<j then merge f x y b else f b)=(if b<j+1 then merge f x y b else f b);by_cases q:b=j
  .subst q;rw [if_neg ae,if_pos ae];unfold merge;rw [if_neg e]
  .by_cases q2:b<j
   .rw [if_pos q2,if_pos ae]
   .rw [if_neg q2,if_neg ae]
theorem Jn {f:Nat->Nat} {x y:Nat} {w:World} {L n:Nat} (h:ot w L (λb=>if b<n then merge f x y b else f b) n):ot w L (merge f x y) n:=h.congr λb hb=>by simp [hb]
theorem Gt (V:World) (c:aq) (hc:bK V c) (hn:c.ar.length<=1000000) (Qn: ∀i (hi:i<c.lines.length),(0<=c.lines[i].fQ/\c.lines[i].fQ<c.ar.length)/\(0<=c.lines[i].qZ/\c.lines[i].qZ<c.ar.length))
 (a:Option Addr) (ca:Nat) (l:List Nat) (hl:bV V a ca (cU l)) (OV: ∀i∈l,i<c.lines.length) (b:Option Addr) (cb:Nat) (gone:List Int) (hg:bV V b cb gone):
 Calls prog 180 #[.agg (C8 c),.slice a l.length ca,.slice b gone.length cb] V λe w'=>e= .returned (i64 ((comps c.ar.length (kept c l gone l.length):Nat):Int))/\Ext V w':=by
 try unfold C8
 have hle:=hl.le;have eI:=hl.cap
 rw [cp]at hle;have UM:=hc.lines.le;have hcc:=hc.lines.cap
 rw [List.length_map]at UM;have iL:=af hc;have HL:=af hl;have HLL:=af OV;have HG:=af hg;have Tl:=af Qn
 clear hc hl OV hg Qn;go_enter func180,ntmps180
 go_upto_region 1 with fail
 obtain ⟨W,hW,x0,Z0,A0⟩:=bS V 30 c.cells;rw [show V.alloc (.cells (C8 c) 30)=W from hW.symm];clear hW;have tx:=af x0;obtain ⟨B,hB⟩: ∃B,B=V.heap.size:=⟨_,rfl⟩;rw [<-hB]at A0⊢;have HA:=af A0;obtain ⟨-,-,k2,-⟩:=aq.at A0;have qI:=af hB;clear A0 x0 Z0 hB;go_wp2_with (at_make;refine bU _ rfl _ _ 22 rfl 3 (.int .i64 0) 8 underlying22 Tryz.info_int rfl _ _ c.ar.length rfl rfl rfl rfl ae ae ?_;intro w1 kR hx1 hz1)
 obtain ⟨L,hL⟩: ∃L,L=W.heap.size:=⟨_,rfl⟩;rw [<-hL]at kR⊢;have U':Hid (W.heap.size<=L):=by show _<=_;omega
 have Rn:=af (ot.zero kR.o);have jZ:=af hx1
 clear kR hx1 hz1 hL k2;go_loopw [21] (λii wr=> ∃k:Nat,k<=c.ar.length/\ot wr L (λb=>if b<k then b else 0) c.ar.length/\Ext W wr/\ii= .int .i64 k) (λii _=>c.ar.length-(intOf ii).toNat)
 case atStart=>exact ⟨0,bm,Rn.o,jZ.o,rfl⟩
 case round=>
  obtain ⟨k,hk,hT,hX,rfl⟩:=hrel;clear Rn jZ;by_cases hlt:k<c.ar.length
  .obtain ⟨c0,f0⟩:=hT.cell k hlt
   have Bw:=af hT.next;have kz:=af (hX.setCell (p:=⟨L,k,none⟩) U'.o (i64 (k:Int)))
   have b0:(0:Int)<=(k:Int):=ae;have b1:(k:Int)<(c.ar.length:Int):=ae;clear hT hX;go_wp2
   exact ⟨⟨k+1,ae,Bw.o,kz.o,bq⟩,bz⟩
  .obtain rfl:k=c.ar.length:=ae
   have Bw:=af hT.full;have kz:=af hX
   have WB:=af (Vp c.ar.length);clear hT hX;go_wp2
   go_loopw [9,33] (λcv ii wl=> ∃(i:Nat) (f:Nat->Nat) (cn:Nat),i<=l.length/\ot wl L f c.ar.length/\Ext W wl/\iA c c.ar.length l gone i f/\cls f c.ar.length=cn/\cv= .int .i64 cn/\ii= .int .i64 i) (λ_ ii _=>l.length-(intOf ii).toNat)
   case atStart=>exact ⟨0,λb=>b,c.ar.length,bm,Bw.o,kz.o,iA.zero c _ l gone,WB.o,rfl,rfl⟩
   case round=>
    obtain ⟨i,f,cn,hi,hT,hX,hP,RJ,rfl,rfl⟩:=hrel;clear Bw kz WB;by_cases hlt:i<l.length
    .obtain ⟨lk,hlk⟩: ∃lk,lk=l[i]:=⟨_,rfl⟩
     obtain ⟨lo,ab,ha,i0⟩: ∃(ao:Nat) (ab:Nat),a=some ⟨ab,ao,none⟩/\wr.cell? ⟨ab,ao+i,none⟩=some (i64 (lk:Int)):=by
      obtain ⟨ab,ao,hab,i0⟩:=((HL.o.ext tx.o).ext hX).cell i (by rw [cp];exact hlt);have e0:(cU l)[i]'(by rw [cp];exact hlt)=((l[i]:Nat):Int):=by simp [cU]
      rw [e0,<-hlk]at i0;exact ⟨ao,ab,hab,i0⟩
     have Vq:lk<c.lines.length:=by rw [hlk];exact HLL.o _ (List.getElem_mem hlt)
     obtain ⟨xb,xo,hxa,-,r1,r2,-⟩:=((iL.o.ext tx.o).ext hX).lines.lines lk Vq;obtain ⟨⟨g1,g2⟩,g3,g4⟩:=Tl.o lk Vq;obtain ⟨⟨p,q⟩,YA⟩: ∃pq,pq=nI c lk:=⟨_,rfl⟩
     have hp:c.lines[lk].fQ=(p:Int)/\c.lines[lk].qZ=(q:Int)/\p<c.ar.length/\q<c.ar.length:=by
      unfold nI at YA;rw [sw Vq]at YA;simp only [Prod.mk.injEq]at YA;omega
     obtain ⟨hp1,hp2,hp3,hp4⟩:=hp;rw [hp1]at r1;rw [hp2]at r2;obtain ⟨t1,-⟩:=hT.cell p hp3;obtain ⟨t2,-⟩:=hT.cell q hp4;obtain ⟨x,hx⟩: ∃x,x=f p:=⟨_,rfl⟩;obtain ⟨y,hy⟩: ∃y,y=f q:=⟨_,rfl⟩;rw [<-hx]at t1;rw [<-hy]at t2;have RL:Hid (nI c l[i]=(p,q)):=by show _=_;rw [<-hlk];exact YA.symm
     have YB:Hid (x=y->iA c c.ar.length l gone (i+1) f):=λe=>hP.same hlt (by rw [RL.o];exact hp3) (by rw [RL.o];exact hp4) (by rw [RL.o];rw [hx,hy]at e;exact e);have YC:Hid (hasB gone (lk:Int)=true->iA c c.ar.length l gone (i+1) f):=λe=>hP.gone hlt (by rw [<-hlk];exact e)
     have YD:Hid (x≠y->hasB gone (lk:Int)=false->iA c c.ar.length l gone (i+1) (merge f x y)/\cls (merge f x y) c.ar.length+1=cls f c.ar.length):=λe g=>by
      have h5:=hP.join hlt (by rw [RL.o];exact hp3) (by rw [RL.o];exact hp4) (by rw [RL.o];rw [hx,hy]at e;exact e) (by rw [<-hlk];exact g);rw [RL.o]at h5;rw [hx,hy];exact h5
     obtain ⟨-,-,-,k3,-⟩:=aq.at ((HA.o.ext hX));have Tf:=af hT;have Mg:=af hX;have HCN:=af RJ;have FZ:=af ha;have HXA:=af hxa
     have aiu:cn<=1000000:=by rw [<-RJ];exact Nat.le_trans (U_ _ _) hn
     have o0:=af (oq wr.drew b cb gone (lk:Int) ((HG.o.ext tx.o).ext hX.drew));have mn:(0:Int)<=(i:Int):=ae;have mq:(i:Int)<(l.length:Int):=ae;have bl0:(0:Int)<=(lk:Int):=ae;have Xm:(lk:Int)<(c.lines.length:Int):=ae;have bp0:(0:Int)<=(p:Int):=ae;have bp1:(p:Int)<(c.ar.length:Int):=ae;have bq0:(0:Int)<=(q:Int):=ae;have bq1:(q:Int)<(c.ar.length:Int):=ae;clear hT hX hP RJ hx hy YA hlk g1 g2 g3 g4 hp1 hp2 hxa ha;rw [FZ.o];go_wp2_with fail
     refine eo (λw'=>w'.cell? ⟨B,3,none⟩=some (.slice c.la c.lines.length c.lc)/\w'.cell? ⟨xb,xo+lk*12+1,none⟩=some (i64 (p:Int))/\w'.cell? ⟨xb,xo+lk*12+2,none⟩=some (i64 (q:Int))/\w'.cell? ⟨L,p,none⟩=some (i64 (x:Int))/\w'.cell? ⟨L,q,none⟩=some (i64 (y:Int))) (λw'=>True) (λi=>false) aw (⟨k3,r1,r2,t1,t2⟩) (trivial) (λdA aL=> ?_);refine eG 0 dA aL ?_;refine eG 1 dA aL ?_;refine eG 2 dA aL ?_;refine eG 3 dA aL ?_ (v:= .int .i64 (lk:Int));refine eG 4 dA aL ?_ (hy:=by rintro w ⟨e0,e1,e2,e3,e4⟩;have ha:=HXA.o;go_simp;try rfl);refine eG 5 dA aL ?_;refine eG 6 dA aL ?_ (v:=i64 (p:Int));refine eG 7 dA aL ?_;refine eG 8 dA aL ?_ (v:=i64 (x:Int));refine eG 9 dA aL ?_;refine eG 10 dA aL ?_;refine eG 11 dA aL ?_;refine eG 12 dA aL ?_ (v:= .int .i64 (lk:Int));refine eG 13 dA aL ?_ (hy:=by rintro w ⟨e0,e1,e2,e3,e4⟩;have ha:=HXA.o;go_simp;try rfl);refine eG 14 dA aL ?_;refine eG 15 dA aL ?_ (v:=i64 (q:Int));refine eG 16 dA aL ?_;refine eG 17 dA aL ?_ (v:=i64 (y:Int));refine eG 18 dA aL ?_ (v:=i64 (x:Int));refine eG 19 dA aL ?_ (v:=i64 (y:Int));refine eh aw ?_ _;clear dA aL;clear i0 k3 r1 r2 t1 t2;by_cases qH:x=y
     .have hq:((x:Int)==(y:Int))=true:=by simp;omega
      have HR:=af (YB.o qH);clear qH;go_wp2
      exact ⟨⟨i+1,f,cn,ae,Tf.o.ext (Ext.refl wr).drew,Mg.o.drew,HR.o,HCN.o,rfl,bq⟩,bz⟩
     .have hq:((x:Int)==(y:Int))=false:=by simp;omega
      rcases Bool.eq_false_or_eq_true (hasB gone (lk:Int))with Vr|Vr
      .have HR:=af (YC.o Vr)
       rw [Vr]at o0;clear qH Vr;go_wp2_with fail
       refine o0.o.mono ?_;rintro e w1 ⟨rfl,kR⟩;rw [kR];clear kR
       go_wp2
       exact ⟨⟨i+1,f,cn,ae,Tf.o.ext (Ext.refl wr).drew,Mg.o.drew,HR.o,HCN.o,rfl,bq⟩,bz⟩
      .have HR:=af (YD.o qH Vr)
       rw [Vr]at o0;obtain ⟨cm,hcm⟩: ∃cm,cm=cls (merge f x y) c.ar.length:=⟨_,rfl⟩;have HCM:=af hcm;have acN:cm+1=cn:=by rw [hcm,<-HCN.o];exact HR.o.2
       have hwr:IntKind.i64.wrap ((cn:Int)-1)=(cm:Int):=nY;have WC:Hid (ot wr.drew L (λb=>if b<0 then merge f x y b else f b) c.ar.length):=(Tf.o.ext (Ext.refl wr).drew).congr λb _=>aX;have HXd:=af Mg.o.drew;clear qH Vr hcm acN;go_wp2_with fail
       refine o0.o.mono ?_;rintro e w1 ⟨rfl,kR⟩;rw [kR];clear kR
       obtain ⟨wo,Ve⟩: ∃wo:World,wo=wr:=⟨_,rfl⟩;subst Ve;go_wp2
       go_loopw [67] (λjj wl=> ∃j:Nat,j<=c.ar.length/\ot wl L (λb=>if b<j then merge f x y b else f b) c.ar.length/\Ext W wl/\jj= .int .i64 j) (λjj _=>c.ar.length-(intOf jj).toNat)
       case atStart=>exact ⟨0,bm,WC.o,HXd.o,rfl⟩
       case round=>
        obtain ⟨j,hj,hT,hX,rfl⟩:=hrel;clear WC HXd Tf Mg o0;by_cases Qe:j<c.ar.length
        .obtain ⟨c0,f0⟩:=hT.cell j Qe
         have ef:(if j<j then merge f x y j else f j)=f j:=by rw [if_neg ae]
         rw [ef]at c0;have b0:(0:Int)<=(j:Int):=ae;have b1:(j:Int)<(c.ar.length:Int):=ae;obtain ⟨z,hz⟩: ∃z,z=f j:=⟨_,rfl⟩;rw [<-hz]at c0;by_cases hzy:z=y
         .have BU:((z:Int)==(y:Int))=true:=by simp;omega
          have Bw:=af (Jl hT (hz.symm.trans hzy));have kz:=af (hX.setCell (p:=⟨L,j,none⟩) (by have:=U'.o;exact this) (i64 (x:Int)))
          clear hT hX hz hzy ef;go_wp2
          exact ⟨⟨j+1,ae,Bw.o,kz.o,bq⟩,bz⟩
         .have BU:((z:Int)==(y:Int))=false:=by simp;omega
          have Bw:=af (Jm hT (λe=>hzy (hz.trans e)));have kz:=af hX
          clear hT hX hz hzy ef;go_wp2
          exact ⟨⟨j+1,ae,Bw.o,kz.o,bq⟩,bz⟩
        .obtain rfl:j=c.ar.length:=ae
         have Bw:=af (Jn hT);have kz:=af hX
         clear hT hX;go_wp2
         exact ⟨⟨i+1,merge f x y,cm,ae,Bw.o,kz.o,HR.o.1,HCM.o.symm,rfl,bq⟩,bz⟩
    .obtain rfl:i=l.length:=ae
     have HE:=af (hP.tells.comps);rw [RJ]at HE;have kz:=af (tx.o.trans hX);clear hT hX hP RJ;go_wp2
     go_ret;exact ⟨by rw [<-HE.o];rfl,kz.o⟩
noncomputable def St.Ee (c:aq) (h:Nat) (x:ee) (i:Int) (s:St):St:=(s.at 6 i).need (!mI c h x) h 13
noncomputable def St.RM (c:aq) (h:Nat) (s:St) (n:Nat):St:=(List.range n).foldl (λ(s:St) (i:Nat)=>match c.outs[i]? with|some x=>St.Ee c h x i s|none=>s) s
noncomputable def St.CI (c:aq) (s:St) (n:Nat):St:=(List.range n).foldl (λs h=>St.RM c h s c.outs.length) s
noncomputable def St.sU (s:St) (c:aq):St:=St.CI c s c.hours.toNat
theorem St.Pk (c:aq) (h:Nat) (s:St) (i:Nat) (hi:i<c.outs.length):St.RM c h s (i+1)=St.Ee c h c.outs[i] i (St.RM c h s i):=by
 unfold St.RM;rw [List.range_succ,List.foldl_append,List.foldl_cons,List.foldl_nil,List.getElem?_eq_getElem hi]
theorem St.Ax (c:aq) (s:St) (n:Nat):St.CI c s (n+1)=St.RM c n (St.CI c s n) c.outs.length:=by
 unfold St.CI;rw [List.range_succ,List.foldl_append,List.foldl_cons,List.foldl_nil]
theorem MD (w0 V:World) (K:Nat) (c:aq) (s:St) (hK:w0.heap.size<=K) (hV:Ext w0 V) (hc:bK w0 c) (hl:kU c) (hh:1<=c.hours/\c.hours<=24) (Qn: ∀i (hi:i<c.lines.length),(0<=c.lines[i].fQ/\c.lines[i].fQ<c.ar.length)/\(0<=c.lines[i].qZ/\c.lines[i].qZ<c.ar.length)) (h:kg V K c s):
 Calls prog 94 #[.pointer (some ⟨K,0,none⟩)] V λe' w'=>oU V K c (s.sU c) e' w':=by
 have Rg:=h.lt;obtain ⟨hh1,hh2⟩:=hh;have hr:=hc.outs;have hle:=hr.le;have eI:=hr.cap
 rw [List.length_map]at hle;have HV:=af hV;have iL:=af hc;have HH:=af h;have eQ:=af hK;have tr:=af hl;have Tl:=af Qn
 unfold St.sU;obtain ⟨k0,-⟩:=fJ h;clear hr h hc hV hK hl Qn;go_enter func94,ntmps94
 go_wp2_with fail
 clear k0;go_loopw [12] (λii wr=> ∃h:Nat,h<=c.hours.toNat/\kg wr K c (St.CI c s h)/\aH K V wr/\ii= .int .i64 h) (λii _=>c.hours.toNat-(intOf ii).toNat)
 case atStart=>exact ⟨0,bm,HH.o,aH.refl _ _,rfl⟩
 case round=>
  obtain ⟨h,hi,hk,hx,rfl⟩:=hrel;clear HH;by_cases hlt:h<c.hours.toNat
  .have th:decide ((h:Int)<c.hours)=true:=by simp;omega
   have vX:=af (St.Ax c s h);generalize St.CI c s h=s0 at*;have hE:=hx.ext HV.o eQ.o;obtain ⟨k0,k1,k2,k3,k4,k5,k6,k7⟩:=fJ hk;have YE:=af (MC w0 wr c (h:Int) hE iL.o tr.o.lines);have Rz:Hid (∀x,(((comps c.ar.length (kept c (cK c h c.lines.length) x.lines (cK c h c.lines.length).length):Nat):Int)==((comps c.ar.length (kept c (cK c h c.lines.length) [] (cK c h c.lines.length).length):Nat):Int))= !mI c h x):=λx=>Ed c (h:Int) x;have Gg:=lu c (h:Int) c.lines.length;generalize cK c (h:Int) c.lines.length=l at*;have Vs:=af hk;have tx:=af hx;have HE0:=af hE
   clear hk hx hE;go_wp2_with fail
   refine YE.o.mono ?_;rintro e W1 ⟨a,cap,rfl,hI,x1,kV⟩;have acO:=hI.le;have afr:=hI.cap
   rw [cp]at acO;have kH:=af (HE0.o.trans x1);have WD:=af (Vs.o.ext x1);have HAK:Hid (∀p,a=some p->p.block≠K):=λp hp=>ux (kV p hp) Vs.o.lt;have hcp:=Gt W1 c (iL.o.ext kH.o) tr.o.ar Tl.o a cap l hI Gg none 0 [] (bV.nil W1);obtain ⟨cn,RJ⟩: ∃cn,cn=comps c.ar.length (kept c l [] l.length):=⟨_,rfl⟩;rw [<-RJ]at hcp;have acQ:Hid (∀x,(((comps c.ar.length (kept c l x.lines l.length):Nat):Int)==(cn:Int))= !mI c h x):=by rw [RJ];exact Rz.o
   have HCP:Hid (Calls prog 180 #[.agg (C8 c),.slice a l.length cap,.slice none 0 0] W1 λe w'=>e= .returned (i64 (cn:Int))/\Ext W1 w'):=hcp;have U9:=af hI;have jZ:=af (tx.o.trans (x1.but K));have Hz:=af Gg
   clear k0 k1 k2 k3 k4 k5 k6 k7 YE Rz hI x1 kV hcp RJ Gg Vs tx HE0;obtain ⟨k0,k1,k2,k3,k4,k5,k6,k7⟩:=fJ WD.o;go_wp2_with fail
   refine HCP.o.mono ?_;rintro e W2 ⟨rfl,x2⟩;have zS:=af (WD.o.ext x2);have dK:=af (U9.o.ext x2);have kz:=af (jZ.o.trans (x2.but K))
   clear k0 k1 k2 k3 k4 k5 k6 k7 x2 WD U9 jZ HCP kH;obtain ⟨-,-,-,-,-,-,-,k7⟩:=fJ zS.o;obtain ⟨wo,Ve⟩: ∃wo:World,wo=wr:=⟨_,rfl⟩;subst Ve;go_wp2_with fail
   clear k7;go_loopw [33] (λii wl=> ∃i:Nat,i<=c.outs.length/\kg wl K c (St.RM c h s0 i)/\aH K V wl/\bV wl a cap (cU l)/\ii= .int .i64 i) (λii _=>c.outs.length-(intOf ii).toNat)
   case atStart=>exact ⟨0,bm,zS.o,kz.o,dK.o,rfl⟩
   case round=>
    obtain ⟨i,hi2,hk,hx,hI,rfl⟩:=hrel;clear zS kz dK;by_cases mr:i<c.outs.length
    .have hE:=hx.ext HV.o eQ.o
     have xL:=af (St.Pk c h s0 i mr);generalize St.RM c h s0 i=s1 at*;obtain ⟨b,o,ha,c0,c1,c2,c3⟩:=(iL.o.outs.ext hE).outs i mr;have Nn:=(iL.o.o c.outs[i] (List.getElem_mem mr)).2.1;have hsp:=acQ.o c.outs[i];obtain ⟨x,Dl⟩: ∃x,x=c.outs[i]:=⟨_,rfl⟩;rw [<-Dl]at c0 c1 c2 c3 Nn hsp xL;have Nv:=af Nn;have Ko:=af hk;have EF:=af hx;have kW:=af hI;have Td:=af hE
     have mn:(0:Int)<=(i:Int):=ae;have mq:(i:Int)<(c.outs.length:Int):=ae;obtain ⟨cx,TV⟩: ∃cx,cx=comps c.ar.length (kept c l x.lines l.length):=⟨_,rfl⟩;rw [<-TV]at hsp;have HSP:=af hsp
     have HPX:Hid (∀U,Ext w0 U->bV U a cap (cU l)->Calls prog 180 #[.agg (C8 c),.slice a l.length cap,.slice x.la x.lines.length x.lc] U λe w'=>e= .returned (i64 (cx:Int))/\Ext U w'):=λU hU hIU=>by
      rw [TV];exact Gt U c (iL.o.ext hU) tr.o.ar Tl.o a cap l hIU Hz.o x.la x.lc x.lines (Nv.o.ext hU)
     clear hk hx hI hE Dl Nn hsp TV;rw [ha];clear ha;go_upto_region 8 with fail
     obtain ⟨W3,hW3,x3,Z3,A3⟩:=bS wr 105 x.cells;rw [show wr.alloc (.cells #[.string x.name,.slice x.la x.lines.length x.lc,.bool x.bY,.slice x.ma x.moves.length x.mc] 105)=W3 from hW3.symm];obtain ⟨E,tK⟩: ∃E,E=wr.heap.size:=⟨_,rfl⟩;rw [<-tK]at A3⊢;have oY:E≠K:=dB Ko.o.lt;have Ma:=af A3;have Vt:=af (Ko.o.ext x3);have uu:=af (EF.o.trans (x3.but K));have mJ:=af (kW.o.ext x3);have Tx:=af (Td.o.trans x3)
     clear hW3 tK Z3 A3 x3 c0 c1 c2 c3 Ko EF kW Td;go_wp2_with fail
     refine (FL W3 K c s1 6 i Vt.o).mono ?_;rintro e W4 ⟨rfl,Gc,gl⟩;have Rw:=af Gc;have nB:=af (uu.o.trans gl);have Pm:=af (mJ.o.gw gl HAK.o);have HE5:=af (gl.ext Tx.o eQ.o)
     have e1:W4.cell? ⟨E,1,none⟩=some (.slice x.la x.lines.length x.lc):=((Ma.o.but gl oY).cell 1).trans rfl;obtain ⟨k0,k1,k2,k3,k4,k5,k6,k7⟩:=fJ Rw.o;clear Gc gl Vt uu mJ Tx Ma;go_wp2_with fail
     refine eo (λw'=>w'.cell? ⟨K,0,none⟩=some (i64 c.hours)/\w'.cell? ⟨K,1,none⟩=some (.slice c.ra c.bC.length c.rc)/\w'.cell? ⟨K,2,none⟩=some (.slice c.ba c.ar.length c.bc)/\w'.cell? ⟨K,3,none⟩=some (.slice c.la c.lines.length c.lc)/\w'.cell? ⟨K,4,none⟩=some (.slice c.ua c.ay.length c.uc)/\w'.cell? ⟨K,5,none⟩=some (.slice c.sa c.stores.length c.sc)/\w'.cell? ⟨K,6,none⟩=some (.slice c.ta c.bF.length c.tc)/\w'.cell? ⟨K,7,none⟩=some (.slice c.oa c.outs.length c.oc)/\w'.cell? ⟨E,1,none⟩=some (.slice x.la x.lines.length x.lc)) (λw'=>True) (λi=>false) aw (⟨k0,k1,k2,k3,k4,k5,k6,k7,e1⟩) (trivial) (λdA aL=> ?_);refine eG 0 dA aL ?_;refine eG 1 dA aL ?_;refine eG 2 dA aL ?_;refine eG 3 dA aL ?_;refine eG 4 dA aL ?_ (v:= .agg (C8 c));refine eG 5 dA aL ?_;refine eG 6 dA aL ?_;refine eG 7 dA aL ?_;refine eG 9 dA aL ?_ (v:=i64 (cn:Int));refine eG 11 dA aL ?_ (v:=i64 (h:Int));refine Nj 8 rfl (λKc hK=> ?_);go_simp;refine (HPX.o W4.drew (HE5.o.trans ah.drew) (Pm.o.ext ah.drew)).mono ?_;rintro e z1 ⟨rfl,xz⟩;refine hK.o _ _ (⟨aB ((Ext.refl W4).drew.trans xz) k0,aB ((Ext.refl W4).drew.trans xz) k1,aB ((Ext.refl W4).drew.trans xz) k2,aB ((Ext.refl W4).drew.trans xz) k3,aB ((Ext.refl W4).drew.trans xz) k4,aB ((Ext.refl W4).drew.trans xz) k5,aB ((Ext.refl W4).drew.trans xz) k6,aB ((Ext.refl W4).drew.trans xz) k7,aB ((Ext.refl W4).drew.trans xz) e1⟩) (trivial) (λdA aL=> ?_);clear hK Kc;try simp only [sS]
     refine eG 10 dA aL ?_ (v:= .bool ((cx:Int)==(cn:Int)));refine Nj 12 rfl (λKc hK=> ?_);go_simp;refine (gj z1 K c (s1.at 6 i) ((cx:Int)==(cn:Int)) h 13 (Rw.o.ext ((Ext.refl W4).drew.trans xz))).mono ?_;rintro e W6 ⟨rfl,Ef,kZ⟩;refine hK.o _ _ (⟨(fJ Ef).1,(fJ Ef).2.1,(fJ Ef).2.2.1,(fJ Ef).2.2.2.1,(fJ Ef).2.2.2.2.1,(fJ Ef).2.2.2.2.2.1,(fJ Ef).2.2.2.2.2.2.1,(fJ Ef).2.2.2.2.2.2.2,g_ (aB ((Ext.refl W4).drew.trans xz) e1) kZ oY⟩) (trivial) (λdA aL=> ?_);clear hK Kc;try simp only [sS]
     refine eh aw ?_ _;clear dA aL;have tU:aH K W4 W6:=(((Ext.refl W4).drew.trans xz).but K).trans kZ;have hK7:kg W6 K c ((s1.at 6 i).need (!mI c h x) h 13):=by rw [<-HSP.o];exact Ef
     have HR:=af (And.intro hK7 (And.intro (nB.o.trans tU) (Pm.o.gw tU HAK.o)));clear Ef kZ tU hK7 xz e1 k0 k1 k2 k3 k4 k5 k6 k7 Rw nB Pm HE5;go_wp2
     exact ⟨⟨i+1,ae,by rw [xL.o];exact HR.o.1,HR.o.2.1,HR.o.2.2,bq⟩,bz⟩
    .obtain rfl:i=c.outs.length:=ae
     rw [<-vX.o]at hk;have HR:=af (And.intro hk hx);clear hk hx hI;go_wp2
     exact ⟨⟨h+1,ae,HR.o.1,HR.o.2,bq⟩,bz⟩
  .obtain rfl:h=c.hours.toNat:=ae
   have th:decide (((c.hours.toNat:Nat):Int)<c.hours)=false:=by simp;omega
   have HR:=af (And.intro hk hx);clear hk hx;go_wp2
   exact bodyPost_end (v:= .tuple #[]) aw rfl ⟨rfl,HR.o.1,HR.o.2⟩
