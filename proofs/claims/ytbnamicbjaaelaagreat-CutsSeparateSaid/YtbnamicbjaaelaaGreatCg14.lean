/- Texts of the proof. -/
import Derived.Test.YtbnamicbjaaelaaGreatCg13
set_option linter.all false
set_option maxHeartbeats 4000000
set_option maxRecDepth 100000
namespace Go.Proofs.YtbnamicbjaaelaaGreat
open Go.Proofs.Tryz
open Go.RowKit
def iZ (g:dy):Bool:=bN 1 1048576 [g.width]&&bN (-1048576) 1048576 [g.bE]
def oW (l:List dy) (n:Nat):Bool:=(List.range n).all λj=>j==0||decide (FK l (j-1)<=FK l j)
def lp (e:Int) (x:aP):Int:=nd (nd (nd (nd e (decide ((x.aY.length:Int)<=8)) 8) (x.aY.all iZ) 3) (oW x.aY x.aY.length) 11) (decide (cG x.aY=IntKind.i64.wrap (x.max-x.min))) 4
theorem LG (l:List dy):oW l 1=true:=rfl
theorem I_ (l:List dy) (p:Nat):oW l (p+1+1)=(oW l (p+1)&&decide (FK l p<=FK l (p+1))):=by
 unfold oW;rw [List.range_succ,List.all_append];simp
theorem LH (l:List dy) (i:Nat) (h1:1<=i) (h:l.length<=i) (h2:i<=l.length\/i=1):oW l i=oW l l.length:=by
 rcases h2 with h2|rfl
 .rw [Nat.le_antisymm h2 h]
 .have:l.length=0\/l.length=1:=ae
  rcases this with e|e<;>rw [e]<;>rfl
theorem Ds (l:List dy) (i:Nat) (h:i<l.length):(l.take (i+1)).all iZ=((l.take i).all iZ&&iZ l[i]):=by
 rw [List.take_succ_eq_append_getElem h,List.all_append];simp
theorem bJ {e:Int} {ok:Bool} {code:Int} (hc:code≠0) (h:nd e ok code=0):e=0/\ok=true:=by
 unfold nd at h;split at h
 .exact absurd h hc
 .rename_i hn
  subst h;refine ⟨rfl,?_⟩;cases ok with
  |true=>rfl
  |false=>exact absurd ⟨rfl,rfl⟩ hn
theorem Bz (l:List dy) (h:l.all iZ=true): ∀i,i<=l.length->0<=cG (l.take i)/\cG (l.take i)<=i*1048576:=by
 intro i;induction i with
 |zero=>intro _;simp [cG]
 |succ i ih=>
  intro hi;have:=ih ae;have gA:iZ l[i]=true:=List.all_eq_true.1 h _ (List.getElem_mem ae);rw [oV l i ae];unfold iZ bN at gA;simp at gA;omega
theorem BA (w0 V:World) (K:Nat) (e:Int) (x:aP) (ix:Int) (hK:w0.heap.size<=K) (hV:Ext w0 V) (hs:ct w0 2 x.sa x.sc (x.aY.map dy.cells)) (RD: ∀g∈x.aY,gO [g.width,g.bE]) (h:FE V K e):
 Calls prog 106 #[.pointer (some ⟨K,0,none⟩),.agg #[.string x.name,i64 x.fE,i64 x.min,i64 x.max,.slice x.sa x.aY.length x.sc,i64 x.fF,i64 x.fG,i64 x.dA,i64 x.cQ,i64 x.dB,i64 x.eK,i64 x.dC,i64 x.startTime,i64 x.dX,i64 x.dD,i64 x.dE,i64 x.aX,i64 x.bR,.slice x.aa x.away.length x.ac,i64 x.state,i64 x.hours,i64 x.output],i64 ix] V λe' w'=>tV V K (lp e x) e' w':=by
 have Nq:=h.lt;have hle:=hs.le;have dS:=hs.cap
 rw [List.length_map]at hle;have HV:=ah hV;have HS:=ah hs;have HSI:=ah RD;have dN:=ah hK
 unfold lp;obtain ⟨e1,EF⟩: ∃e1,nd e (decide ((x.aY.length:Int)<=8)) 8=e1:=⟨_,rfl⟩;have GX:=ah (λU (hU:FE U K e)=>cZ U K e (decide ((x.aY.length:Int)<=8)) 3 ix 4 8 hU);rw [EF]at GX⊢
 have PS:e1=0->x.aY.length<=8:=λh0=>by
  rw [<-EF]at h0;have:=(bJ aq h0).2;rw [decide_eq_true_eq]at this;omega
 obtain ⟨M,hM⟩: ∃M,IntKind.i64.wrap (x.max-x.min)=M:=⟨_,rfl⟩;rw [hM];obtain ⟨e2,Nr⟩: ∃e2,nd e1 (x.aY.all iZ) 3=e2:=⟨_,rfl⟩;rw [Nr];obtain ⟨e3,PT⟩: ∃e3,nd e2 (oW x.aY x.aY.length) 11=e3:=⟨_,rfl⟩;rw [PT]
 have hz:e3=0->x.aY.length<=8/\x.aY.all iZ=true:=λh0=>by
  rw [<-PT]at h0;have h1:=(bJ aq h0).1;rw [<-Nr]at h1;have h2:=bJ aq h1;exact ⟨PS h2.1,h2.2⟩
 have yP:=ah Nr;have FP:=ah PT;have HZ:=ah hz;have HH:=ah h
 clear hs hV RD h PS EF Nr PT hz hK;go_enter func106,ntmps106
 go_upto_region 1 with fail
 obtain ⟨W,hW,x0,Z0,A0⟩:=aV V 55 x.cells;rw [show V.alloc (.cells #[.string x.name,i64 x.fE,i64 x.min,i64 x.max,.slice x.sa x.aY.length x.sc,i64 x.fF,i64 x.fG,i64 x.dA,i64 x.cQ,i64 x.dB,i64 x.eK,i64 x.dC,i64 x.startTime,i64 x.dX,i64 x.dD,i64 x.dE,i64 x.aX,i64 x.bR,.slice x.aa x.away.length x.ac,i64 x.state,i64 x.hours,i64 x.output] 55)=W from hW.symm];clear hW;obtain ⟨B,hB⟩: ∃B,B=V.heap.size:=⟨_,rfl⟩;rw [<-hB]at A0⊢;have gZ:B≠K:=ae;have Cm:=ah A0;have X0:=ah x0
 have u4:W.cell? ⟨B,4,none⟩=some (.slice x.sa x.aY.length x.sc):=(A0.cell 4).trans rfl;clear hB Z0 A0 x0;go_wp2_with fail
 refine (GX.o W (HH.o.ext X0.o)).mono ?_;rintro e5 W1 ⟨rfl,YB,hx1⟩;clear u4;have mP:=ah (Cm.o.but hx1 gZ);have eC:=ah ((X0.o.but K).trans hx1);have vA:=ah YB;have u4:=mP.o.cl 4 (.slice x.sa x.aY.length x.sc) rfl;clear hx1 Cm HH GX X0 YB;go_wp2_with fail
 clear u4;go_loopw [23] (λii wr=> ∃i:Nat,i<=x.aY.length/\FE wr K (nd e1 ((x.aY.take i).all iZ) 3)/\aB K V wr/\aT wr B 55 x.cells/\ii= .int .i64 i) (λii _=>x.aY.length-(intOf ii).toNat)
 case atStart=>exact ⟨0,aZ,by simpa [bI]using vA.o,eC.o,mP.o,rfl⟩
 case round=>
  obtain ⟨i,hi,hF,hX,hA,rfl⟩:=hrel;clear vA eC mP;by_cases hlt:i<x.aY.length
  .have hE:=hX.ext HV.o dN.o
   obtain ⟨b,o,ha,c0,c1⟩:=(HS.o.ext hE).aY i hlt;have HT:=ah (Ds x.aY i hlt);have Kd:=HSI.o x.aY[i] (List.getElem_mem hlt);generalize (x.aY.take i).all iZ=q at*;obtain ⟨g,hg⟩: ∃g,g=x.aY[i]:=⟨_,rfl⟩;rw [<-hg]at c0 c1 HT Kd;have aaS:=ah (Kd g.width aG);have aaT:=ah (Kd g.bE aG)
   have HF:=ah hF;have HX:=ah hX;have HA:=ah hA;have HE:=ah hE
   have iM:(0:Int)<=(i:Int):=ae;have iK:(i:Int)<(x.aY.length:Int):=ae;clear hF hX hA hE hg Kd;rw [ha];go_upto_region 6 with fail
   obtain ⟨W2,hW2,x2,Z2,A2⟩:=aV wr 110 g.cells;rw [show wr.alloc (.cells #[i64 g.width,i64 g.bE] 110)=W2 from hW2.symm];clear hW2;obtain ⟨E,mO⟩: ∃E,E=wr.heap.size:=⟨_,rfl⟩;rw [<-mO]at A2⊢;have mN:E≠K:=bA HF.o.lt;have Ot:=ah A2;have Iq:=ah (HF.o.ext x2);have vG:=ah (HA.o.ext x2)
   have eR:Hid (aB K V W2):=HX.o.trans (x2.but K);have YO:=ah (nZ e1 q (iZ g) 3 aq);clear mO Z2 A2 c0 c1 x2 ha;have z0:=Ot.o.cl 0 (i64 g.width) rfl;have z1:=Ot.o.cl 1 (i64 g.bE) rfl;have HQ:=ah (show iZ g=(bN 1 1048576 [g.width]&&bN (-1048576) 1048576 [g.bE])from rfl);have BC:=ah (Bq W2 g.width 1 1048576 aaS.o);rcases Bool.eq_false_or_eq_true (bN 1 1048576 [g.width])with hp|hp
   .rw [hp]at BC HQ
    clear hp;go_wp2_with fail
    refine BC.o.mono ?_;rintro e6 w1 ⟨rfl,rfl⟩;obtain ⟨W3,hW3,x3,Z3,-⟩:=aV W2 3 [i64 g.width];rw [show W2.alloc (.cells #[i64 g.width] 3)=W3 from hW3.symm];have z1:=aC x3 z1;have kR:=ah x3;clear z0 hW3 Z3 x3;go_wp2_with fail
    refine (Bq W3 g.bE (-1048576) 1048576 aaT.o).mono ?_;rintro e6 w1 ⟨rfl,rfl⟩;go_wp2_with fail
    refine (cZ _ K _ _ _ _ _ _ ((Iq.o.ext kR.o).alloc _)).mono ?_;rintro e6 W4 ⟨rfl,FD,gG⟩;have PO:=ah FD;have pV:Hid (aB K V W4):=((eR.o.trans (kR.o.but K)).alloc' _).trans gG;have yw:Hid (aT W4 B 55 x.cells):=((vG.o.ext kR.o).alloc' _).but gG gZ;clear FD gG;go_wp2
    exact ⟨⟨i+1,ae,by rw [HT.o,<-YO.o,HQ.o,Bool.true_and];exact PO.o,pV.o,yw.o,bf⟩,a_⟩
   .rw [hp]at BC HQ
    clear hp;go_wp2_with fail
    refine BC.o.mono ?_;rintro e6 w1 ⟨rfl,rfl⟩;go_wp2_with fail
    refine (cZ _ K _ _ _ _ _ _ (Iq.o.alloc _)).mono ?_;rintro e6 W4 ⟨rfl,FD,gG⟩;have PO:=ah FD;have pV:Hid (aB K V W4):=(eR.o.alloc' _).trans gG;have yw:Hid (aT W4 B 55 x.cells):=(vG.o.alloc' _).but gG gZ;clear FD gG;go_wp2
    exact ⟨⟨i+1,ae,by rw [HT.o,<-YO.o,HQ.o,Bool.false_and];exact PO.o,pV.o,yw.o,bf⟩,a_⟩
  .obtain rfl:i=x.aY.length:=ae
   rw [List.take_length,yP.o]at hF;have vA:=ah hF;have eC:=ah hX;have mP:=ah hA
   clear hF hX hA;go_wp2
   go_loopw [9] (λii wl=> ∃i:Nat,1<=i/\(i<=x.aY.length\/i=1)/\FE wl K (nd e2 (oW x.aY i) 11)/\aB K V wl/\aT wl B 55 x.cells/\ii= .int .i64 i) (λii _=>x.aY.length-(intOf ii).toNat)
   case atStart=>exact ⟨1,bY,Or.inr rfl,by simpa [bI,LG]using vA.o,eC.o,mP.o,rfl⟩
   case round=>
    obtain ⟨i,h1,hi,hF,hX,hA,rfl⟩:=hrel;clear vA eC mP;have u4:wr.cell? ⟨B,4,none⟩=some (.slice x.sa x.aY.length x.sc):=(hA.cell 4).trans rfl;by_cases hlt:i<x.aY.length
    .obtain ⟨p,rfl⟩: ∃p,i=p+1:=⟨i-1,ae⟩
     have hE:=hX.ext HV.o dN.o;obtain ⟨b,o,ha,-,q1⟩:=(HS.o.ext hE).aY (p+1) hlt;obtain ⟨b',o',ha',-,q0⟩:=(HS.o.ext hE).aY p ae;rw [ha]at ha';cases ha'
     rw [<-Bw hlt]at q1;rw [<-Bw (show p<x.aY.length by omega)]at q0;have I5:=ah (I_ x.aY p);have uL:=ah ha;have Iq:=ah hF;have eR:=ah hX;have vG:=ah hA
     have hw:IntKind.i64.wrap (((p+1:Nat):Int)-1)=(p:Int):=dW;have hw2:IntKind.i64.wrap (p:Int)=(p:Int):=dW;have iM:(0:Int)<=((p+1:Nat):Int):=ae;have iK:((p+1:Nat):Int)<(x.aY.length:Int):=ae;have Tj:(0:Int)<=(p:Int):=ae;have Tk:(p:Int)<(x.aY.length:Int):=ae;have Tl:(0:Int)<=(p:Int)+1:=ae;have Tm:(p:Int)+1<(x.aY.length:Int):=ae;have YL: ¬((p:Int)+1<0):=ae;generalize FK x.aY (p+1)=y1 at*;generalize FK x.aY p=y0 at*;generalize oW x.aY (p+1)=q at*;have FH:=ah (λU (hU:FE U K (nd e2 q 11))=>cZ U K (nd e2 q 11) (decide (y0<=y1)) 3 ix 4 11 hU)
     have HKS:=ah (show∀U:World,(∀q v,wr.cell? q=some v->q.block≠K->U.cell? q=some v)->U.cell? ⟨B,4,none⟩=some (.slice x.sa x.aY.length x.sc)/\U.cell? ⟨b,o+(p+1)*2+1,none⟩=some (i64 y1)/\U.cell? ⟨b,o+p*2+1,none⟩=some (i64 y0)from λU hU=>by
      have Og:b≠K:=by
       obtain ⟨b'',o'',U9,z0,-⟩:=HS.o.aY p ae;rw [uL.o]at U9;cases U9
       have:=cY z0;simp only at this;have:=dN.o;omega
      exact ⟨hU _ _ u4 gZ,hU _ _ q1 Og,hU _ _ q0 Og⟩)
     clear ha hF hX hA hE q1 q0;go_wp2_with fail
     clear u4;refine aO (λw'=>w'.cell? ⟨B,4,none⟩=some (.slice x.sa x.aY.length x.sc)/\w'.cell? ⟨b,o+(p+1)*2+1,none⟩=some (i64 y1)/\w'.cell? ⟨b,o+p*2+1,none⟩=some (i64 y0)) (λw'=>True) (λi=>false) ax (HKS.o _ (λ_ _ hq _=>hq)) (trivial) (λaD ai=> ?_);refine aJ 0 aD ai ?_;refine aJ 1 aD ai ?_;refine aJ 2 aD ai ?_;refine aJ 3 aD ai ?_ (v:= .int .i64 ((p+1:Nat):Int));refine aJ 4 aD ai ?_ (hy:=by rintro w ⟨e0,e1,e2⟩;have ha:=uL.o;go_simp;try rfl);refine aJ 5 aD ai ?_;refine aJ 6 aD ai ?_ (v:=i64 y1);refine aJ 7 aD ai ?_;refine aJ 8 aD ai ?_;refine aJ 9 aD ai ?_ (v:= .int .i64 ((p+1:Nat):Int));refine aJ 10 aD ai ?_ (v:= .int .i64 (p:Int));refine aJ 11 aD ai ?_ (hy:=by rintro w ⟨e0,e1,e2⟩;have ha:=uL.o;go_simp;try rfl);refine aJ 12 aD ai ?_;refine aJ 13 aD ai ?_ (v:=i64 y0);refine aJ 14 aD ai ?_ (v:= .bool (decide (y0<=y1)));refine aJ 15 aD ai ?_ (v:=i64 3);refine aJ 16 aD ai ?_ (v:=i64 ix);refine eI 17 rfl (λKc hK=> ?_);go_simp;refine (FH.o wr.drew (Iq.o.ext ar.drew)).mono ?_;rintro e5 W5 ⟨rfl,Lz,eP⟩;refine hK.o _ _ (HKS.o _ (λq v hq hb=>bU (aC (Ext.refl wr).drew hq) eP hb)) (trivial) (λaD ai=> ?_);clear hK Kc;try simp only [sS]
     refine aI ax ?_ _;clear aD ai
     have HF5:Hid (FE W5 K (nd e2 (q&&decide (y0<=y1)) 11)):=by
      show FE _ _ _;rw [<-nZ _ _ _ _ aq];exact Lz
     have BD:Hid (aT W5 B 55 x.cells):=(vG.o.ext ar.drew).but eP gZ;have lW:Hid (aB K V W5):=eR.o.trans (((Ext.refl wr).drew.but K).trans eP);clear Lz eP;go_wp2
     exact ⟨⟨p+1+1,ae,Or.inl ae,by rw [I5.o];exact HF5.o,lW.o,BD.o,bf⟩,a_⟩
    .rw [LH x.aY i h1 ae hi,FP.o]at hF
     have vA:=ah hF;have eC:=ah hX;have mP:=ah hA
     clear hF hX hA;go_wp2_with fail
     clear u4;by_cases h0:e3=0
     .obtain ⟨h8,hall⟩:=HZ.o h0
      have zv:=ah (Bz x.aY hall);have t1:(e3==0)=true:=by simpa using h0
      have t2:(e3 !=0)=false:=by simpa using h0
      have H0:=ah h0;clear h0 hall hi;go_loopw [10,11] (λvs ii wl=> ∃j:Nat,j<=x.aY.length/\FE wl K e3/\aB K V wl/\aT wl B 55 x.cells/\vs= .int .i64 (cG (x.aY.take j))/\ii= .int .i64 j) (λ_ ii _=>x.aY.length-(intOf ii).toNat)
      case atStart=>exact ⟨0,aZ,vA.o,eC.o,mP.o,rfl,rfl⟩
      case round=>
       obtain ⟨j,hj,hF,hX,hA,rfl,rfl⟩:=hrel;clear vA eC mP;have u4:wr.cell? ⟨B,4,none⟩=some (.slice x.sa x.aY.length x.sc):=(hA.cell 4).trans rfl;have k3:=hF.cell;by_cases hlt:j<x.aY.length
       .have hE:=hX.ext HV.o dN.o
        obtain ⟨b,o,ha,q0,-⟩:=(HS.o.ext hE).aY j hlt;have HT:=ah (oV x.aY j hlt);have hb1:=zv.o j ae;have hb2:=zv.o (j+1) ae
        rw [HT.o]at hb2;generalize cG (x.aY.take j)=σ at*;generalize x.aY[j].width=y at*;have uL:=ah ha;have hws:IntKind.i64.wrap (σ+y)=σ+y:=dW;have iM:(0:Int)<=(j:Int):=ae;have iK:(j:Int)<(x.aY.length:Int):=ae;have HF:=ah hF;have HX:=ah hX;have HA:=ah hA;have BC:=ah hb1;have ud:=ah hb2
        clear hF hX hA hE ha hb1 hb2;rw [uL.o]at u4;go_wp2
        exact ⟨⟨j+1,ae,HF.o,HX.o,HA.o,by rw [HT.o],bf⟩,a_⟩
       .obtain rfl:j=x.aY.length:=ae
        have u2:wr.cell? ⟨B,2,none⟩=some (i64 x.min):=(hA.cell 2).trans rfl;have u3:wr.cell? ⟨B,3,none⟩=some (i64 x.max):=(hA.cell 3).trans rfl;have FH:=ah (cZ wr K e3 (cG x.aY==M) 3 ix 4 4 hF);have HX:=ah hX;have HQ:Hid ((cG x.aY==M)=decide (cG x.aY=M)):=by show _=_;rw [Bool.eq_iff_iff];simp
        rw [List.take_length];clear hF hX hA;go_wp2_with fail
        refine FH.o.mono ?_;rintro e6 W6 ⟨rfl,Ou,jA⟩;go_wp2
        exact bodyPost_end (v:= .tuple #[]) ax rfl ⟨rfl,by rw [<-HQ.o];exact Ou,HX.o.trans jA⟩
     .have t1:(e3==0)=false:=by simpa using h0
      have t2:(e3 !=0)=true:=by simpa using h0
      have qO:=ah (fq h0 (decide (cG x.aY=M)) 4);clear h0 hi;go_loopw [10,11] (λvs ii wl=>FE wl K e3/\aB K V wl/\aT wl B 55 x.cells/\vs= .int .i64 0/\ii= .int .i64 0) (λ_ _ _=>0)
      case atStart=>exact ⟨vA.o,eC.o,mP.o,rfl,rfl⟩
      case round=>
       obtain ⟨hF,hX,hA,rfl,rfl⟩:=hrel;clear vA eC mP;have u4:wr.cell? ⟨B,4,none⟩=some (.slice x.sa x.aY.length x.sc):=(hA.cell 4).trans rfl;have u2:wr.cell? ⟨B,2,none⟩=some (i64 x.min):=(hA.cell 2).trans rfl;have u3:wr.cell? ⟨B,3,none⟩=some (i64 x.max):=(hA.cell 3).trans rfl;have k3:=hF.cell;have FH:=ah (cZ wr K e3 true 3 ix 4 4 hF);rw [bI]at FH;have HX:=ah hX;clear hF hX hA;by_cases hl:0<x.aY.length
       .have tl:decide ((0:Int)<(x.aY.length:Int))=true:=by simpa using hl
        go_wp2_with fail
        refine FH.o.mono ?_;rintro e6 W6 ⟨rfl,Ou,jA⟩;go_wp2
        exact bodyPost_end (v:= .tuple #[]) ax rfl ⟨rfl,by rw [qO.o];exact Ou,HX.o.trans jA⟩
       .have tl:decide ((0:Int)<(x.aY.length:Int))=false:=by simpa using hl
        go_wp2_with fail
        refine FH.o.mono ?_;rintro e6 W6 ⟨rfl,Ou,jA⟩;go_wp2
        exact bodyPost_end (v:= .tuple #[]) ax rfl ⟨rfl,by rw [qO.o];exact Ou,HX.o.trans jA⟩
