/- Texts of the proof. -/
import Derived.Test.YtbnamicbjaaelaaGreatCg29
set_option linter.all false
set_option maxHeartbeats 2000000
set_option maxRecDepth 100000
namespace Go.Proofs.YtbnamicbjaaelaaGreat
open Go.Proofs.Tryz
open Go.RowKit
theorem Gh {f:Nat->Nat} {x y j:Nat} {w:World} {L n:Nat} (h:j3 w L (λb=>if b<j then merge f x y b else f b) n) (e:f j=y):j3 (w.setCell ⟨L,j,none⟩ (i64 (x:Int))) L (λb=>if b<j+1 then merge f x y b else f b) n:=
 (h.set j x).congr λb _=>by
   unfold g_;by_cases q:b=j
   .subst q;rw [if_pos rfl,if_pos ae];unfold merge;rw [if_pos e]
   .rw [if_neg q]
    show(if b<j then merge f x y b else f b)=(if b<j+1 then merge f x y b else f b);by_cases q2:b<j
    .rw [if_pos q2,if_pos ae]
    .rw [if_neg q2,if_neg ae]
theorem Gi {f:Nat->Nat} {x y j:Nat} {w:World} {L n:Nat} (h:j3 w L (λb=>if b<j then merge f x y b else f b) n) (e:f j≠y):j3 w L (λb=>if b<j+1 then merge f x y b else f b) n:=
 h.congr λb _=>by
  show(if b<j then merge f x y b else f b)=(if b<j+1 then merge f x y b else f b);by_cases q:b=j
  .subst q;rw [if_neg ae,if_pos ae];unfold merge;rw [if_neg e]
  .by_cases q2:b<j
   .rw [if_pos q2,if_pos ae]
   .rw [if_neg q2,if_neg ae]
theorem Gj {f:Nat->Nat} {x y:Nat} {w:World} {L n:Nat} (h:j3 w L (λb=>if b<n then merge f x y b else f b) n):j3 w L (merge f x y) n:=h.congr λb hb=>by simp [hb]
theorem D_ (V:World) (c:ay) (hc:bm V c) (hn:c.aF.length<=1000000) (IJ: ∀i (hi:i<c.lines.length),(0<=c.lines[i].dL/\c.lines[i].dL<c.aF.length)/\(0<=c.lines[i].ld/\c.lines[i].ld<c.aF.length))
 (a:Option Addr) (ca:Nat) (l:List Nat) (hl:aS V a ca (aR l)) (uM: ∀i∈l,i<c.lines.length) (b:Option Addr) (cb:Nat) (gone:List Int) (hg:aS V b cb gone):
 Calls prog 129 #[.agg (C8 c),.slice a l.length ca,.slice b gone.length cb] V λe w'=>e= .returned (i64 ((comps c.aF.length (kept c l gone l.length):Nat):Int))/\Ext V w':=by
 try unfold C8
 have hle:=hl.le;have dS:=hl.cap
 rw [aN]at hle;have YK:=hc.lines.le;have hcc:=hc.lines.cap
 rw [List.length_map]at YK;have eT:=ah hc;have HL:=ah hl;have tC:=ah uM;have HG:=ah hg;have Hp:=ah IJ
 clear hc hl uM hg IJ;go_enter func129,ntmps129
 go_upto_region 1 with fail
 obtain ⟨W,hW,x0,Z0,A0⟩:=aV V 32 c.cells;rw [show V.alloc (.cells (C8 c) 32)=W from hW.symm];clear hW;have tK:=ah x0;obtain ⟨B,hB⟩: ∃B,B=V.heap.size:=⟨_,rfl⟩;rw [<-hB]at A0⊢;have HA:=ah A0;obtain ⟨-,-,k2,-⟩:=ay.at A0;have qB:=ah hB;clear A0 x0 Z0 hB;go_wp2_with (at_make;refine bS _ rfl _ _ 22 rfl 3 (.int .i64 0) 8 underlying22 Tryz.info_int rfl _ _ c.aF.length rfl rfl rfl rfl ae ae ?_;intro w1 eL hx1 hz1)
 obtain ⟨L,hL⟩: ∃L,L=W.heap.size:=⟨_,rfl⟩;rw [<-hL]at eL⊢;have z_:Hid (W.heap.size<=L):=by show _<=_;omega
 have wm:=ah (j3.zero eL.o);have eC:=ah hx1
 clear eL hx1 hz1 hL k2;go_loopw [21] (λii wr=> ∃k:Nat,k<=c.aF.length/\j3 wr L (λb=>if b<k then b else 0) c.aF.length/\Ext W wr/\ii= .int .i64 k) (λii _=>c.aF.length-(intOf ii).toNat)
 case atStart=>exact ⟨0,aZ,wm.o,eC.o,rfl⟩
 case round=>
  obtain ⟨k,hk,hT,hX,rfl⟩:=hrel;clear wm eC;by_cases hlt:k<c.aF.length
  .obtain ⟨c0,f0⟩:=hT.cell k hlt
   have lX:=ah hT.next;have eR:=ah (hX.setCell (p:=⟨L,k,none⟩) z_.o (i64 (k:Int)))
   have b0:(0:Int)<=(k:Int):=ae;have b1:(k:Int)<(c.aF.length:Int):=ae;clear hT hX;go_wp2
   exact ⟨⟨k+1,ae,lX.o,eR.o,bf⟩,a_⟩
  .obtain rfl:k=c.aF.length:=ae
   have lX:=ah hT.full;have eR:=ah hX
   have Ny:=ah (Sw c.aF.length);clear hT hX;go_wp2
   go_loopw [9,33] (λcv ii wl=> ∃(i:Nat) (f:Nat->Nat) (cn:Nat),i<=l.length/\j3 wl L f c.aF.length/\Ext W wl/\gq c c.aF.length l gone i f/\cls f c.aF.length=cn/\cv= .int .i64 cn/\ii= .int .i64 i) (λ_ ii _=>l.length-(intOf ii).toNat)
   case atStart=>exact ⟨0,λb=>b,c.aF.length,aZ,lX.o,eR.o,gq.zero c _ l gone,Ny.o,rfl,rfl⟩
   case round=>
    obtain ⟨i,f,cn,hi,hT,hX,hP,Dd,rfl,rfl⟩:=hrel;clear lX eR Ny;by_cases hlt:i<l.length
    .obtain ⟨lk,hlk⟩: ∃lk,lk=l[i]:=⟨_,rfl⟩
     obtain ⟨lo,ab,ha,i0⟩: ∃(ao:Nat) (ab:Nat),a=some ⟨ab,ao,none⟩/\wr.cell? ⟨ab,ao+i,none⟩=some (i64 (lk:Int)):=by
      obtain ⟨ab,ao,hab,i0⟩:=((HL.o.ext tK.o).ext hX).cell i (by rw [aN];exact hlt);have e0:(aR l)[i]'(by rw [aN];exact hlt)=((l[i]:Nat):Int):=by simp [aR]
      rw [e0,<-hlk]at i0;exact ⟨ao,ab,hab,i0⟩
     have Sx:lk<c.lines.length:=by rw [hlk];exact tC.o _ (List.getElem_mem hlt)
     obtain ⟨xb,xo,hxa,-,r1,r2,-⟩:=((eT.o.ext tK.o).ext hX).lines.lines lk Sx;obtain ⟨⟨g1,g2⟩,g3,g4⟩:=Hp.o lk Sx;obtain ⟨⟨p,q⟩,Xg⟩: ∃pq,pq=lF c lk:=⟨_,rfl⟩
     have hp:c.lines[lk].dL=(p:Int)/\c.lines[lk].ld=(q:Int)/\p<c.aF.length/\q<c.aF.length:=by
      unfold lF at Xg;rw [pJ Sx]at Xg;simp only [Prod.mk.injEq]at Xg;omega
     obtain ⟨hp1,hp2,hp3,hp4⟩:=hp;rw [hp1]at r1;rw [hp2]at r2;obtain ⟨t1,-⟩:=hT.cell p hp3;obtain ⟨t2,-⟩:=hT.cell q hp4;obtain ⟨x,hx⟩: ∃x,x=f p:=⟨_,rfl⟩;obtain ⟨y,hy⟩: ∃y,y=f q:=⟨_,rfl⟩;rw [<-hx]at t1;rw [<-hy]at t2;have Sy:Hid (lF c l[i]=(p,q)):=by show _=_;rw [<-hlk];exact Xg.symm
     have Xh:Hid (x=y->gq c c.aF.length l gone (i+1) f):=λe=>hP.same hlt (by rw [Sy.o];exact hp3) (by rw [Sy.o];exact hp4) (by rw [Sy.o];rw [hx,hy]at e;exact e);have Xi:Hid (hasB gone (lk:Int)=true->gq c c.aF.length l gone (i+1) f):=λe=>hP.gone hlt (by rw [<-hlk];exact e)
     have Xj:Hid (x≠y->hasB gone (lk:Int)=false->gq c c.aF.length l gone (i+1) (merge f x y)/\cls (merge f x y) c.aF.length+1=cls f c.aF.length):=λe g=>by
      have h5:=hP.join hlt (by rw [Sy.o];exact hp3) (by rw [Sy.o];exact hp4) (by rw [Sy.o];rw [hx,hy]at e;exact e) (by rw [<-hlk];exact g);rw [Sy.o]at h5;rw [hx,hy];exact h5
     obtain ⟨-,-,-,k3,-⟩:=ay.at ((HA.o.ext hX));have LO:=ah hT;have BH:=ah hX;have JC:=ah Dd;have uL:=ah ha;have Hs:=ah hxa
     have aiv:cn<=1000000:=by rw [<-Dd];exact Nat.le_trans (RL _ _) hn
     have jg:=ah (lV wr.drew b cb gone (lk:Int) ((HG.o.ext tK.o).ext hX.drew));have iM:(0:Int)<=(i:Int):=ae;have iK:(i:Int)<(l.length:Int):=ae;have bl0:(0:Int)<=(lk:Int):=ae;have bl1:(lk:Int)<(c.lines.length:Int):=ae;have bp0:(0:Int)<=(p:Int):=ae;have bp1:(p:Int)<(c.aF.length:Int):=ae;have bq0:(0:Int)<=(q:Int):=ae;have bq1:(q:Int)<(c.aF.length:Int):=ae;clear hT hX hP Dd hx hy Xg hlk g1 g2 g3 g4 hp1 hp2 hxa ha;rw [uL.o];go_wp2_with fail
     refine aO (λw'=>w'.cell? ⟨B,3,none⟩=some (.slice c.la c.lines.length c.lc)/\w'.cell? ⟨xb,xo+lk*12+1,none⟩=some (i64 (p:Int))/\w'.cell? ⟨xb,xo+lk*12+2,none⟩=some (i64 (q:Int))/\w'.cell? ⟨L,p,none⟩=some (i64 (x:Int))/\w'.cell? ⟨L,q,none⟩=some (i64 (y:Int))) (λw'=>True) (λi=>false) ax (⟨k3,r1,r2,t1,t2⟩) (trivial) (λaD ai=> ?_);refine aJ 0 aD ai ?_;refine aJ 1 aD ai ?_;refine aJ 2 aD ai ?_;refine aJ 3 aD ai ?_ (v:= .int .i64 (lk:Int));refine aJ 4 aD ai ?_ (hy:=by rintro w ⟨e0,e1,e2,e3,e4⟩;have ha:=Hs.o;go_simp;try rfl);refine aJ 5 aD ai ?_;refine aJ 6 aD ai ?_ (v:=i64 (p:Int));refine aJ 7 aD ai ?_;refine aJ 8 aD ai ?_ (v:=i64 (x:Int));refine aJ 9 aD ai ?_;refine aJ 10 aD ai ?_;refine aJ 11 aD ai ?_;refine aJ 12 aD ai ?_ (v:= .int .i64 (lk:Int));refine aJ 13 aD ai ?_ (hy:=by rintro w ⟨e0,e1,e2,e3,e4⟩;have ha:=Hs.o;go_simp;try rfl);refine aJ 14 aD ai ?_;refine aJ 15 aD ai ?_ (v:=i64 (q:Int));refine aJ 16 aD ai ?_;refine aJ 17 aD ai ?_ (v:=i64 (y:Int));refine aJ 18 aD ai ?_ (v:=i64 (x:Int));refine aJ 19 aD ai ?_ (v:=i64 (y:Int));refine aI ax ?_ _;clear aD ai;clear i0 k3 r1 r2 t1 t2;by_cases mG:x=y
     .have hq:((x:Int)==(y:Int))=true:=by simp;omega
      have HR:=ah (Xh.o mG);clear mG;go_wp2
      exact ⟨⟨i+1,f,cn,ae,LO.o.ext (Ext.refl wr).drew,BH.o.drew,HR.o,JC.o,rfl,bf⟩,a_⟩
     .have hq:((x:Int)==(y:Int))=false:=by simp;omega
      rcases Bool.eq_false_or_eq_true (hasB gone (lk:Int))with Sz|Sz
      .have HR:=ah (Xi.o Sz)
       rw [Sz]at jg;clear mG Sz;go_wp2_with fail
       refine jg.o.mono ?_;rintro e w1 ⟨rfl,eL⟩;rw [eL];clear eL
       go_wp2
       exact ⟨⟨i+1,f,cn,ae,LO.o.ext (Ext.refl wr).drew,BH.o.drew,HR.o,JC.o,rfl,bf⟩,a_⟩
      .have HR:=ah (Xj.o mG Sz)
       rw [Sz]at jg;obtain ⟨cm,hcm⟩: ∃cm,cm=cls (merge f x y) c.aF.length:=⟨_,rfl⟩;have Sp:=ah hcm;have ace:cm+1=cn:=by rw [hcm,<-JC.o];exact HR.o.2
       have hwr:IntKind.i64.wrap ((cn:Int)-1)=(cm:Int):=dW;have Qh:Hid (j3 wr.drew L (λb=>if b<0 then merge f x y b else f b) c.aF.length):=(LO.o.ext (Ext.refl wr).drew).congr λb _=>aG;have HXd:=ah BH.o.drew;clear mG Sz hcm ace;go_wp2_with fail
       refine jg.o.mono ?_;rintro e w1 ⟨rfl,eL⟩;rw [eL];clear eL
       obtain ⟨wo,BP⟩: ∃wo:World,wo=wr:=⟨_,rfl⟩;subst BP;go_wp2
       go_loopw [67] (λjj wl=> ∃j:Nat,j<=c.aF.length/\j3 wl L (λb=>if b<j then merge f x y b else f b) c.aF.length/\Ext W wl/\jj= .int .i64 j) (λjj _=>c.aF.length-(intOf jj).toNat)
       case atStart=>exact ⟨0,aZ,Qh.o,HXd.o,rfl⟩
       case round=>
        obtain ⟨j,hj,hT,hX,rfl⟩:=hrel;clear Qh HXd LO BH jg;by_cases EB:j<c.aF.length
        .obtain ⟨c0,f0⟩:=hT.cell j EB
         have ef:(if j<j then merge f x y j else f j)=f j:=by rw [if_neg ae]
         rw [ef]at c0;have b0:(0:Int)<=(j:Int):=ae;have b1:(j:Int)<(c.aF.length:Int):=ae;obtain ⟨z,hz⟩: ∃z,z=f j:=⟨_,rfl⟩;rw [<-hz]at c0;by_cases Zu:z=y
         .have Nk:((z:Int)==(y:Int))=true:=by simp;omega
          have lX:=ah (Gh hT (hz.symm.trans Zu));have eR:=ah (hX.setCell (p:=⟨L,j,none⟩) (by have:=z_.o;exact this) (i64 (x:Int)))
          clear hT hX hz Zu ef;go_wp2
          exact ⟨⟨j+1,ae,lX.o,eR.o,bf⟩,a_⟩
         .have Nk:((z:Int)==(y:Int))=false:=by simp;omega
          have lX:=ah (Gi hT (λe=>Zu (hz.trans e)));have eR:=ah hX
          clear hT hX hz Zu ef;go_wp2
          exact ⟨⟨j+1,ae,lX.o,eR.o,bf⟩,a_⟩
        .obtain rfl:j=c.aF.length:=ae
         have lX:=ah (Gj hT);have eR:=ah hX
         clear hT hX;go_wp2
         exact ⟨⟨i+1,merge f x y,cm,ae,lX.o,eR.o,HR.o.1,Sp.o.symm,rfl,bf⟩,a_⟩
    .obtain rfl:i=l.length:=ae
     have HE:=ah (hP.tells.comps);rw [Dd]at HE;have eR:=ah (tK.o.trans hX);clear hT hX hP Dd;go_wp2
     go_ret;exact ⟨by rw [<-HE.o];rfl,eR.o⟩
noncomputable def St.B9 (c:ay) (h:Nat) (x:cJ) (i:Int) (s:St):St:=(s.at 6 i).need (!ky c h x) h 13
noncomputable def St.OY (c:ay) (h:Nat) (s:St) (n:Nat):St:=(List.range n).foldl (λ(s:St) (i:Nat)=>match c.outs[i]? with|some x=>St.B9 c h x i s|none=>s) s
noncomputable def St.Ak (c:ay) (s:St) (n:Nat):St:=(List.range n).foldl (λs h=>St.OY c h s c.outs.length) s
noncomputable def St.pP (s:St) (c:ay):St:=St.Ak c s c.hours.toNat
theorem St.Mx (c:ay) (h:Nat) (s:St) (i:Nat) (hi:i<c.outs.length):St.OY c h s (i+1)=St.B9 c h c.outs[i] i (St.OY c h s i):=by
 unfold St.OY;rw [List.range_succ,List.foldl_append,List.foldl_cons,List.foldl_nil,List.getElem?_eq_getElem hi]
theorem St.x_ (c:ay) (s:St) (n:Nat):St.Ak c s (n+1)=St.OY c n (St.Ak c s n) c.outs.length:=by
 unfold St.Ak;rw [List.range_succ,List.foldl_append,List.foldl_cons,List.foldl_nil]
theorem JD (w0 V:World) (K:Nat) (c:ay) (s:St) (hK:w0.heap.size<=K) (hV:Ext w0 V) (hc:bm w0 c) (hl:oX c) (hh:1<=c.hours/\c.hours<=24) (IJ: ∀i (hi:i<c.lines.length),(0<=c.lines[i].dL/\c.lines[i].dL<c.aF.length)/\(0<=c.lines[i].ld/\c.lines[i].ld<c.aF.length)) (h:iW V K c s):
 Calls prog 74 #[.pointer (some ⟨K,0,none⟩)] V λe' w'=>mI V K c (s.pP c) e' w':=by
 have Nq:=h.lt;obtain ⟨hh1,YT⟩:=hh;have hr:=hc.outs;have hle:=hr.le;have dS:=hr.cap
 rw [List.length_map]at hle;have HV:=ah hV;have eT:=ah hc;have HH:=ah h;have dN:=ah hK;have oB:=ah hl;have Hp:=ah IJ
 unfold St.pP;obtain ⟨k0,-⟩:=eM h;clear hr h hc hV hK hl IJ;go_enter func74,ntmps74
 go_wp2_with fail
 clear k0;go_loopw [12] (λii wr=> ∃h:Nat,h<=c.hours.toNat/\iW wr K c (St.Ak c s h)/\aB K V wr/\ii= .int .i64 h) (λii _=>c.hours.toNat-(intOf ii).toNat)
 case atStart=>exact ⟨0,aZ,HH.o,aB.refl _ _,rfl⟩
 case round=>
  obtain ⟨h,hi,hk,hx,rfl⟩:=hrel;clear HH;by_cases hlt:h<c.hours.toNat
  .have th:decide ((h:Int)<c.hours)=true:=by simp;omega
   have se:=ah (St.x_ c s h);generalize St.Ak c s h=s0 at*;have hE:=hx.ext HV.o dN.o;obtain ⟨k0,k1,k2,k3,k4,k5,k6,k7⟩:=eM hk;have Xk:=ah (Jp w0 wr c (h:Int) hE eT.o oB.o.lines);have OU:Hid (∀x,(((comps c.aF.length (kept c (dz c h c.lines.length) x.lines (dz c h c.lines.length).length):Nat):Int)==((comps c.aF.length (kept c (dz c h c.lines.length) [] (dz c h c.lines.length).length):Nat):Int))= !ky c h x):=λx=>B8 c (h:Int) x;have D8:=jO c (h:Int) c.lines.length;generalize dz c (h:Int) c.lines.length=l at*;have OZ:=ah hk;have tK:=ah hx;have PR:=ah hE
   clear hk hx hE;go_wp2_with fail
   refine Xk.o.mono ?_;rintro e W1 ⟨a,cap,rfl,hI,x1,lJ⟩;have acf:=hI.le;have afc:=hI.cap
   rw [aN]at acf;have jB:=ah (PR.o.trans x1);have JE:=ah (OZ.o.ext x1);have Zt:Hid (∀p,a=some p->p.block≠K):=λp hp=>qj (lJ p hp) OZ.o.lt;have Nt:=D_ W1 c (eT.o.ext jB.o) oB.o.aF Hp.o a cap l hI D8 none 0 [] (aS.nil W1);obtain ⟨cn,Dd⟩: ∃cn,cn=comps c.aF.length (kept c l [] l.length):=⟨_,rfl⟩;rw [<-Dd]at Nt;have acg:Hid (∀x,(((comps c.aF.length (kept c l x.lines l.length):Nat):Int)==(cn:Int))= !ky c h x):=by rw [Dd];exact OU.o
   have Qd:Hid (Calls prog 129 #[.agg (C8 c),.slice a l.length cap,.slice none 0 0] W1 λe w'=>e= .returned (i64 (cn:Int))/\Ext W1 w'):=Nt;have BG:=ah hI;have eC:=ah (tK.o.trans (x1.but K));have vH:=ah D8
   clear k0 k1 k2 k3 k4 k5 k6 k7 Xk OU hI x1 lJ Nt Dd D8 OZ tK PR;obtain ⟨k0,k1,k2,k3,k4,k5,k6,k7⟩:=eM JE.o;go_wp2_with fail
   refine Qd.o.mono ?_;rintro e W2 ⟨rfl,x2⟩;have xn:=ah (JE.o.ext x2);have Ja:=ah (BG.o.ext x2);have eR:=ah (eC.o.trans (x2.but K))
   clear k0 k1 k2 k3 k4 k5 k6 k7 x2 JE BG eC Qd jB;obtain ⟨-,-,-,-,-,-,-,k7⟩:=eM xn.o;obtain ⟨wo,BP⟩: ∃wo:World,wo=wr:=⟨_,rfl⟩;subst BP;go_wp2_with fail
   clear k7;go_loopw [33] (λii wl=> ∃i:Nat,i<=c.outs.length/\iW wl K c (St.OY c h s0 i)/\aB K V wl/\aS wl a cap (aR l)/\ii= .int .i64 i) (λii _=>c.outs.length-(intOf ii).toNat)
   case atStart=>exact ⟨0,aZ,xn.o,eR.o,Ja.o,rfl⟩
   case round=>
    obtain ⟨i,Qi,hk,hx,hI,rfl⟩:=hrel;clear xn eR Ja;by_cases E5:i<c.outs.length
    .have hE:=hx.ext HV.o dN.o
     have Xl:=ah (St.Mx c h s0 i E5);generalize St.OY c h s0 i=s1 at*;obtain ⟨b,o,ha,c0,c1,c2,c3⟩:=(eT.o.outs.ext hE).outs i E5;have tQ:=(eT.o.o c.outs[i] (List.getElem_mem E5)).2.1;have hsp:=acg.o c.outs[i];obtain ⟨x,kJ⟩: ∃x,x=c.outs[i]:=⟨_,rfl⟩;rw [<-kJ]at c0 c1 c2 c3 tQ hsp Xl;have WJ:=ah tQ;have Hb:=ah hk;have kR:=ah hx;have HI3:=ah hI;have FP:=ah hE
     have iM:(0:Int)<=(i:Int):=ae;have iK:(i:Int)<(c.outs.length:Int):=ae;obtain ⟨cx,QH⟩: ∃cx,cx=comps c.aF.length (kept c l x.lines l.length):=⟨_,rfl⟩;rw [<-QH]at hsp;have HSP:=ah hsp
     have HPX:Hid (∀U,Ext w0 U->aS U a cap (aR l)->Calls prog 129 #[.agg (C8 c),.slice a l.length cap,.slice x.la x.lines.length x.lc] U λe w'=>e= .returned (i64 (cx:Int))/\Ext U w'):=λU hU hIU=>by
      rw [QH];exact D_ U c (eT.o.ext hU) oB.o.aF Hp.o a cap l hIU vH.o x.la x.lc x.lines (WJ.o.ext hU)
     clear hk hx hI hE kJ tQ hsp QH;rw [ha];clear ha;go_upto_region 8 with fail
     obtain ⟨W3,hW3,x3,Z3,A3⟩:=aV wr 75 x.cells;rw [show wr.alloc (.cells #[.string x.name,.slice x.la x.lines.length x.lc,.bool x.cd,.slice x.ma x.moves.length x.mc] 75)=W3 from hW3.symm];obtain ⟨E,mO⟩: ∃E,E=wr.heap.size:=⟨_,rfl⟩;rw [<-mO]at A3⊢;have mN:E≠K:=bA Hb.o.lt;have Ot:=ah A3;have OA:=ah (Hb.o.ext x3);have pV:=ah (kR.o.trans (x3.but K));have HI4:=ah (HI3.o.ext x3);have NC:=ah (FP.o.trans x3)
     clear hW3 mO Z3 A3 x3 c0 c1 c2 c3 Hb kR HI3 FP;go_wp2_with fail
     refine (Dh W3 K c s1 6 i OA.o).mono ?_;rintro e W4 ⟨rfl,Aa,eP⟩;have Kg:=ah Aa;have lW:=ah (pV.o.trans eP);have HI5:=ah (HI4.o.eH eP Zt.o);have Zv:=ah (eP.ext NC.o dN.o)
     have e1:W4.cell? ⟨E,1,none⟩=some (.slice x.la x.lines.length x.lc):=((Ot.o.but eP mN).cell 1).trans rfl;obtain ⟨k0,k1,k2,k3,k4,k5,k6,k7⟩:=eM Kg.o;clear Aa eP OA pV HI4 NC Ot;go_wp2_with fail
     refine aO (λw'=>w'.cell? ⟨K,0,none⟩=some (i64 c.hours)/\w'.cell? ⟨K,1,none⟩=some (.slice c.ra c.aX.length c.rc)/\w'.cell? ⟨K,2,none⟩=some (.slice c.ba c.aF.length c.bc)/\w'.cell? ⟨K,3,none⟩=some (.slice c.la c.lines.length c.lc)/\w'.cell? ⟨K,4,none⟩=some (.slice c.ua c.aA.length c.uc)/\w'.cell? ⟨K,5,none⟩=some (.slice c.sa c.stores.length c.sc)/\w'.cell? ⟨K,6,none⟩=some (.slice c.ta c.bh.length c.tc)/\w'.cell? ⟨K,7,none⟩=some (.slice c.oa c.outs.length c.oc)/\w'.cell? ⟨E,1,none⟩=some (.slice x.la x.lines.length x.lc)) (λw'=>True) (λi=>false) ax (⟨k0,k1,k2,k3,k4,k5,k6,k7,e1⟩) (trivial) (λaD ai=> ?_);refine aJ 0 aD ai ?_;refine aJ 1 aD ai ?_;refine aJ 2 aD ai ?_;refine aJ 3 aD ai ?_;refine aJ 4 aD ai ?_ (v:= .agg (C8 c));refine aJ 5 aD ai ?_;refine aJ 6 aD ai ?_;refine aJ 7 aD ai ?_;refine aJ 9 aD ai ?_ (v:=i64 (cn:Int));refine aJ 11 aD ai ?_ (v:=i64 (h:Int));refine eI 8 rfl (λKc hK=> ?_);go_simp;refine (HPX.o W4.drew (Zv.o.trans ar.drew) (HI5.o.ext ar.drew)).mono ?_;rintro e z1 ⟨rfl,xz⟩;refine hK.o _ _ (⟨aC ((Ext.refl W4).drew.trans xz) k0,aC ((Ext.refl W4).drew.trans xz) k1,aC ((Ext.refl W4).drew.trans xz) k2,aC ((Ext.refl W4).drew.trans xz) k3,aC ((Ext.refl W4).drew.trans xz) k4,aC ((Ext.refl W4).drew.trans xz) k5,aC ((Ext.refl W4).drew.trans xz) k6,aC ((Ext.refl W4).drew.trans xz) k7,aC ((Ext.refl W4).drew.trans xz) e1⟩) (trivial) (λaD ai=> ?_);clear hK Kc;try simp only [sS]
     refine aJ 10 aD ai ?_ (v:= .bool ((cx:Int)==(cn:Int)));refine eI 12 rfl (λKc hK=> ?_);go_simp;refine (fH z1 K c (s1.at 6 i) ((cx:Int)==(cn:Int)) h 13 (Kg.o.ext ((Ext.refl W4).drew.trans xz))).mono ?_;rintro e W6 ⟨rfl,B_,jA⟩;refine hK.o _ _ (⟨(eM B_).1,(eM B_).2.1,(eM B_).2.2.1,(eM B_).2.2.2.1,(eM B_).2.2.2.2.1,(eM B_).2.2.2.2.2.1,(eM B_).2.2.2.2.2.2.1,(eM B_).2.2.2.2.2.2.2,bU (aC ((Ext.refl W4).drew.trans xz) e1) jA mN⟩) (trivial) (λaD ai=> ?_);clear hK Kc;try simp only [sS]
     refine aI ax ?_ _;clear aD ai;have oz:aB K W4 W6:=(((Ext.refl W4).drew.trans xz).but K).trans jA;have hK7:iW W6 K c ((s1.at 6 i).need (!ky c h x) h 13):=by rw [<-HSP.o];exact B_
     have HR:=ah (And.intro hK7 (And.intro (lW.o.trans oz) (HI5.o.eH oz Zt.o)));clear B_ jA oz hK7 xz e1 k0 k1 k2 k3 k4 k5 k6 k7 Kg lW HI5 Zv;go_wp2
     exact ⟨⟨i+1,ae,by rw [Xl.o];exact HR.o.1,HR.o.2.1,HR.o.2.2,bf⟩,a_⟩
    .obtain rfl:i=c.outs.length:=ae
     rw [<-se.o]at hk;have HR:=ah (And.intro hk hx);clear hk hx hI;go_wp2
     exact ⟨⟨h+1,ae,HR.o.1,HR.o.2,bf⟩,a_⟩
  .obtain rfl:h=c.hours.toNat:=ae
   have th:decide (((c.hours.toNat:Nat):Int)<c.hours)=false:=by simp;omega
   have HR:=ah (And.intro hk hx);clear hk hx;go_wp2
   exact bodyPost_end (v:= .tuple #[]) ax rfl ⟨rfl,HR.o.1,HR.o.2⟩
