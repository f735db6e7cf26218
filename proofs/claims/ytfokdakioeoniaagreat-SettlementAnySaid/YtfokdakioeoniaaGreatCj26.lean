/- Texts of the proof. -/
import Derived.Test.YtfokdakioeoniaaGreatCj25
set_option linter.all false
set_option maxHeartbeats 4000000
set_option maxRecDepth 100000
namespace Go.Proofs.YtfokdakioeoniaaGreat
open Go.Proofs.Tryz
open Go.RowKit
def mg (g:iI):Bool:=cJ 1 1048576 [g.width]&&cJ (-1048576) 1048576 [g.gm]
def yw (l:List iI) (n:Nat):Bool:=(List.range n).all λj=>j==0||decide (Km l (j-1)<=Km l j)
def rk (e:Int) (x:cw):Int:=nd (nd (nd (nd e (decide ((x.bR.length:Int)<=8)) 8) (x.bR.all mg) 3) (yw x.bR x.bR.length) 11) (decide (jk x.bR=IntKind.i64.wrap (x.max-x.min))) 4
theorem OP (l:List iI):yw l 1=true:=rfl
theorem L_ (l:List iI) (p:Nat):yw l (p+1+1)=(yw l (p+1)&&decide (Km l p<=Km l (p+1))):=by
 unfold yw;rw [List.range_succ,List.all_append];simp
theorem OQ (l:List iI) (i:Nat) (h1:1<=i) (h:l.length<=i) (h2:i<=l.length\/i=1):yw l i=yw l l.length:=by
 rcases h2 with h2|rfl
 .rw [Nat.le_antisymm h2 h]
 .have:l.length=0\/l.length=1:=ae
  rcases this with e|e<;>rw [e]<;>rfl
theorem FY (l:List iI) (i:Nat) (h:i<l.length):(l.take (i+1)).all mg=((l.take i).all mg&&mg l[i]):=by
 rw [List.take_succ_eq_append_getElem h,List.all_append];simp
theorem bN {e:Int} {ok:Bool} {code:Int} (hc:code≠0) (h:nd e ok code=0):e=0/\ok=true:=by
 unfold nd at h;split at h
 .exact absurd h hc
 .rename_i hn
  subst h;refine ⟨rfl,?_⟩;cases ok with
  |true=>rfl
  |false=>exact absurd ⟨rfl,rfl⟩ hn
theorem DG (l:List iI) (h:l.all mg=true): ∀i,i<=l.length->0<=jk (l.take i)/\jk (l.take i)<=i*1048576:=by
 intro i;induction i with
 |zero=>intro _;simp [jk]
 |succ i ih=>
  intro hi;have:=ih ae;have yq:mg l[i]=true:=List.all_eq_true.1 h _ (List.getElem_mem ae);rw [rj l i ae];unfold mg cJ at yq;simp at yq;omega
theorem DI (w0 V:World) (K:Nat) (e:Int) (x:cw) (ix:Int) (hK:w0.heap.size<=K) (hV:Ext w0 V) (hs:di w0 2 x.sa x.sc (x.bR.map iI.cells)) (U3: ∀g∈x.bR,lq [g.width,g.gm]) (h:FE V K e):
 Calls prog 209 #[.pointer (some ⟨K,0,none⟩),.agg #[.string x.name,i64 x.fc,i64 x.min,i64 x.max,.slice x.sa x.bR.length x.sc,i64 x.mA,i64 x.mB,i64 x.iW,i64 x.gV,i64 x.iX,i64 x.mC,i64 x.iY,i64 x.startTime,i64 x.j_,i64 x.iZ,i64 x.ja,i64 x.bC,i64 x.ez,.slice x.aa x.away.length x.ac,i64 x.state,i64 x.hours,i64 x.output],i64 ix] V λe' w'=>vS V K (rk e x) e' w':=by
 have Rg:=h.lt;have hle:=hs.le;have eI:=hs.cap
 rw [List.length_map]at hle;have HV:=af hV;have HS:=af hs;have Rm:=af U3;have eQ:=af hK
 unfold rk;obtain ⟨e1,Ht⟩: ∃e1,nd e (decide ((x.bR.length:Int)<=8)) 8=e1:=⟨_,rfl⟩;have J5:=af (λU (hU:FE U K e)=>d_ U K e (decide ((x.bR.length:Int)<=8)) 3 ix 4 8 hU);rw [Ht]at J5⊢
 have Tb:e1=0->x.bR.length<=8:=λh0=>by
  rw [<-Ht]at h0;have:=(bN ai h0).2;rw [decide_eq_true_eq]at this;omega
 obtain ⟨M,hM⟩: ∃M,IntKind.i64.wrap (x.max-x.min)=M:=⟨_,rfl⟩;rw [hM];obtain ⟨e2,DF⟩: ∃e2,nd e1 (x.bR.all mg) 3=e2:=⟨_,rfl⟩;rw [DF];obtain ⟨e3,Tc⟩: ∃e3,nd e2 (yw x.bR x.bR.length) 11=e3:=⟨_,rfl⟩;rw [Tc]
 have hz:e3=0->x.bR.length<=8/\x.bR.all mg=true:=λh0=>by
  rw [<-Tc]at h0;have h1:=(bN ai h0).1;rw [<-DF]at h1;have h2:=bN ai h1;exact ⟨Tb h2.1,h2.2⟩
 have Qr:=af DF;have Td:=af Tc;have HZ:=af hz;have HH:=af h
 clear hs hV U3 h Tb Ht DF Tc hz hK;go_enter func209,ntmps209
 go_upto_region 1 with fail
 obtain ⟨W,hW,x0,Z0,A0⟩:=bS V 51 x.cells;rw [show V.alloc (.cells #[.string x.name,i64 x.fc,i64 x.min,i64 x.max,.slice x.sa x.bR.length x.sc,i64 x.mA,i64 x.mB,i64 x.iW,i64 x.gV,i64 x.iX,i64 x.mC,i64 x.iY,i64 x.startTime,i64 x.j_,i64 x.iZ,i64 x.ja,i64 x.bC,i64 x.ez,.slice x.aa x.away.length x.ac,i64 x.state,i64 x.hours,i64 x.output] 51)=W from hW.symm];clear hW;obtain ⟨B,hB⟩: ∃B,B=V.heap.size:=⟨_,rfl⟩;rw [<-hB]at A0⊢;have mP:B≠K:=ae;have I0:=af A0;have X0:=af x0
 have u4:W.cell? ⟨B,4,none⟩=some (.slice x.sa x.bR.length x.sc):=(A0.cell 4).trans rfl;clear hB Z0 A0 x0;go_wp2_with fail
 refine (J5.o W (HH.o.ext X0.o)).mono ?_;rintro e5 W1 ⟨rfl,SM,hx1⟩;clear u4;have oZ:=af (I0.o.but hx1 mP);have jZ:=af ((X0.o.but K).trans hx1);have Cn:=af SM;have u4:=oZ.o.cl 4 (.slice x.sa x.bR.length x.sc) rfl;clear hx1 I0 HH J5 X0 SM;go_wp2_with fail
 clear u4;go_loopw [23] (λii wr=> ∃i:Nat,i<=x.bR.length/\FE wr K (nd e1 ((x.bR.take i).all mg) 3)/\aH K V wr/\aY wr B 51 x.cells/\ii= .int .i64 i) (λii _=>x.bR.length-(intOf ii).toNat)
 case atStart=>exact ⟨0,bm,by simpa [jK]using Cn.o,jZ.o,oZ.o,rfl⟩
 case round=>
  obtain ⟨i,hi,hF,hX,hA,rfl⟩:=hrel;clear Cn jZ oZ;by_cases hlt:i<x.bR.length
  .have hE:=hX.ext HV.o eQ.o
   obtain ⟨b,o,ha,c0,c1⟩:=(HS.o.ext hE).bR i hlt;have HT:=af (FY x.bR i hlt);have OO:=Rm.o x.bR[i] (List.getElem_mem hlt);generalize (x.bR.take i).all mg=q at*;obtain ⟨g,hg⟩: ∃g,g=x.bR[i]:=⟨_,rfl⟩;rw [<-hg]at c0 c1 HT OO;have ab4:=af (OO g.width aX);have ab5:=af (OO g.gm aX)
   have HF:=af hF;have HX:=af hX;have HA:=af hA;have HE:=af hE
   have mn:(0:Int)<=(i:Int):=ae;have mq:(i:Int)<(x.bR.length:Int):=ae;clear hF hX hA hE hg OO;rw [ha];go_upto_region 6 with fail
   obtain ⟨W2,hW2,x2,Z2,A2⟩:=bS wr 87 g.cells;rw [show wr.alloc (.cells #[i64 g.width,i64 g.gm] 87)=W2 from hW2.symm];clear hW2;obtain ⟨E,tK⟩: ∃E,E=wr.heap.size:=⟨_,rfl⟩;rw [<-tK]at A2⊢;have oY:E≠K:=dB HF.o.lt;have Ma:=af A2;have Qg:=af (HF.o.ext x2);have xr:=af (HA.o.ext x2)
   have kz:Hid (aH K V W2):=HX.o.trans (x2.but K);have Hw:=af (qj e1 q (mg g) 3 ai);clear tK Z2 A2 c0 c1 x2 ha;have z0:=Ma.o.cl 0 (i64 g.width) rfl;have z1:=Ma.o.cl 1 (i64 g.gm) rfl;have HQ:=af (show mg g=(cJ 1 1048576 [g.width]&&cJ (-1048576) 1048576 [g.gm])from rfl);have DJ:=af (FT W2 g.width 1 1048576 ab4.o);rcases Bool.eq_false_or_eq_true (cJ 1 1048576 [g.width])with hp|hp
   .rw [hp]at DJ HQ
    clear hp;go_wp2_with fail
    refine DJ.o.mono ?_;rintro e6 w1 ⟨rfl,rfl⟩;obtain ⟨W3,hW3,x3,Z3,-⟩:=bS W2 3 [i64 g.width];rw [show W2.alloc (.cells #[i64 g.width] 3)=W3 from hW3.symm];have z1:=aB x3 z1;have EF:=af x3;clear z0 hW3 Z3 x3;go_wp2_with fail
    refine (FT W3 g.gm (-1048576) 1048576 ab5.o).mono ?_;rintro e6 w1 ⟨rfl,rfl⟩;go_wp2_with fail
    refine (d_ _ K _ _ _ _ _ _ ((Qg.o.ext EF.o).alloc _)).mono ?_;rintro e6 W4 ⟨rfl,OI,gW⟩;have S':=af OI;have uu:Hid (aH K V W4):=((kz.o.trans (EF.o.but K)).alloc' _).trans gW;have OS:Hid (aY W4 B 51 x.cells):=((xr.o.ext EF.o).alloc' _).but gW mP;clear OI gW;go_wp2
    exact ⟨⟨i+1,ae,by rw [HT.o,<-Hw.o,HQ.o,Bool.true_and];exact S'.o,uu.o,OS.o,bq⟩,bz⟩
   .rw [hp]at DJ HQ
    clear hp;go_wp2_with fail
    refine DJ.o.mono ?_;rintro e6 w1 ⟨rfl,rfl⟩;go_wp2_with fail
    refine (d_ _ K _ _ _ _ _ _ (Qg.o.alloc _)).mono ?_;rintro e6 W4 ⟨rfl,OI,gW⟩;have S':=af OI;have uu:Hid (aH K V W4):=(kz.o.alloc' _).trans gW;have OS:Hid (aY W4 B 51 x.cells):=(xr.o.alloc' _).but gW mP;clear OI gW;go_wp2
    exact ⟨⟨i+1,ae,by rw [HT.o,<-Hw.o,HQ.o,Bool.false_and];exact S'.o,uu.o,OS.o,bq⟩,bz⟩
  .obtain rfl:i=x.bR.length:=ae
   rw [List.take_length,Qr.o]at hF;have Cn:=af hF;have jZ:=af hX;have oZ:=af hA
   clear hF hX hA;go_wp2
   go_loopw [9] (λii wl=> ∃i:Nat,1<=i/\(i<=x.bR.length\/i=1)/\FE wl K (nd e2 (yw x.bR i) 11)/\aH K V wl/\aY wl B 51 x.cells/\ii= .int .i64 i) (λii _=>x.bR.length-(intOf ii).toNat)
   case atStart=>exact ⟨1,cG,Or.inr rfl,by simpa [jK,OP]using Cn.o,jZ.o,oZ.o,rfl⟩
   case round=>
    obtain ⟨i,h1,hi,hF,hX,hA,rfl⟩:=hrel;clear Cn jZ oZ;have u4:wr.cell? ⟨B,4,none⟩=some (.slice x.sa x.bR.length x.sc):=(hA.cell 4).trans rfl;by_cases hlt:i<x.bR.length
    .obtain ⟨p,rfl⟩: ∃p,i=p+1:=⟨i-1,ae⟩
     have hE:=hX.ext HV.o eQ.o;obtain ⟨b,o,ha,-,q1⟩:=(HS.o.ext hE).bR (p+1) hlt;obtain ⟨b',o',ha',-,q0⟩:=(HS.o.ext hE).bR p ae;rw [ha]at ha';cases ha'
     rw [<-DC hlt]at q1;rw [<-DC (show p<x.bR.length by omega)]at q0;have UZ:=af (L_ x.bR p);have FZ:=af ha;have Qg:=af hF;have kz:=af hX;have xr:=af hA
     have hw:IntKind.i64.wrap (((p+1:Nat):Int)-1)=(p:Int):=nY;have hw2:IntKind.i64.wrap (p:Int)=(p:Int):=nY;have mn:(0:Int)<=((p+1:Nat):Int):=ae;have mq:((p+1:Nat):Int)<(x.bR.length:Int):=ae;have UT:(0:Int)<=(p:Int):=ae;have UU:(p:Int)<(x.bR.length:Int):=ae;have Wn:(0:Int)<=(p:Int)+1:=ae;have Wo:(p:Int)+1<(x.bR.length:Int):=ae;have bk2: ¬((p:Int)+1<0):=ae;generalize Km x.bR (p+1)=y1 at*;generalize Km x.bR p=y0 at*;generalize yw x.bR (p+1)=q at*;have Nu:=af (λU (hU:FE U K (nd e2 q 11))=>d_ U K (nd e2 q 11) (decide (y0<=y1)) 3 ix 4 11 hU)
     have HKS:=af (show∀U:World,(∀q v,wr.cell? q=some v->q.block≠K->U.cell? q=some v)->U.cell? ⟨B,4,none⟩=some (.slice x.sa x.bR.length x.sc)/\U.cell? ⟨b,o+(p+1)*2+1,none⟩=some (i64 y1)/\U.cell? ⟨b,o+p*2+1,none⟩=some (i64 y0)from λU hU=>by
      have Rh:b≠K:=by
       obtain ⟨b'',o'',X3,z0,-⟩:=HS.o.bR p ae;rw [FZ.o]at X3;cases X3
       have:=eH z0;simp only at this;have:=eQ.o;omega
      exact ⟨hU _ _ u4 mP,hU _ _ q1 Rh,hU _ _ q0 Rh⟩)
     clear ha hF hX hA hE q1 q0;go_wp2_with fail
     clear u4;refine eo (λw'=>w'.cell? ⟨B,4,none⟩=some (.slice x.sa x.bR.length x.sc)/\w'.cell? ⟨b,o+(p+1)*2+1,none⟩=some (i64 y1)/\w'.cell? ⟨b,o+p*2+1,none⟩=some (i64 y0)) (λw'=>True) (λi=>false) aw (HKS.o _ (λ_ _ hq _=>hq)) (trivial) (λdA aL=> ?_);refine eG 0 dA aL ?_;refine eG 1 dA aL ?_;refine eG 2 dA aL ?_;refine eG 3 dA aL ?_ (v:= .int .i64 ((p+1:Nat):Int));refine eG 4 dA aL ?_ (hy:=by rintro w ⟨e0,e1,e2⟩;have ha:=FZ.o;go_simp;try rfl);refine eG 5 dA aL ?_;refine eG 6 dA aL ?_ (v:=i64 y1);refine eG 7 dA aL ?_;refine eG 8 dA aL ?_;refine eG 9 dA aL ?_ (v:= .int .i64 ((p+1:Nat):Int));refine eG 10 dA aL ?_ (v:= .int .i64 (p:Int));refine eG 11 dA aL ?_ (hy:=by rintro w ⟨e0,e1,e2⟩;have ha:=FZ.o;go_simp;try rfl);refine eG 12 dA aL ?_;refine eG 13 dA aL ?_ (v:=i64 y0);refine eG 14 dA aL ?_ (v:= .bool (decide (y0<=y1)));refine eG 15 dA aL ?_ (v:=i64 3);refine eG 16 dA aL ?_ (v:=i64 ix);refine Nj 17 rfl (λKc hK=> ?_);go_simp;refine (Nu.o wr.drew (Qg.o.ext ah.drew)).mono ?_;rintro e5 W5 ⟨rfl,Ta,gl⟩;refine hK.o _ _ (HKS.o _ (λq v hq hb=>g_ (aB (Ext.refl wr).drew hq) gl hb)) (trivial) (λdA aL=> ?_);clear hK Kc;try simp only [sS]
     refine eh aw ?_ _;clear dA aL
     have HF5:Hid (FE W5 K (nd e2 (q&&decide (y0<=y1)) 11)):=by
      show FE _ _ _;rw [<-qj _ _ _ _ ai];exact Ta
     have Wu:Hid (aY W5 B 51 x.cells):=(xr.o.ext ah.drew).but gl mP;have nB:Hid (aH K V W5):=kz.o.trans (((Ext.refl wr).drew.but K).trans gl);clear Ta gl;go_wp2
     exact ⟨⟨p+1+1,ae,Or.inl ae,by rw [UZ.o];exact HF5.o,nB.o,Wu.o,bq⟩,bz⟩
    .rw [OQ x.bR i h1 ae hi,Td.o]at hF
     have Cn:=af hF;have jZ:=af hX;have oZ:=af hA
     clear hF hX hA;go_wp2_with fail
     clear u4;by_cases h0:e3=0
     .obtain ⟨h8,hall⟩:=HZ.o h0
      have Ql:=af (DG x.bR hall);have t1:(e3==0)=true:=by simpa using h0
      have t2:(e3 !=0)=false:=by simpa using h0
      have H0:=af h0;clear h0 hall hi;go_loopw [10,11] (λvs ii wl=> ∃j:Nat,j<=x.bR.length/\FE wl K e3/\aH K V wl/\aY wl B 51 x.cells/\vs= .int .i64 (jk (x.bR.take j))/\ii= .int .i64 j) (λ_ ii _=>x.bR.length-(intOf ii).toNat)
      case atStart=>exact ⟨0,bm,Cn.o,jZ.o,oZ.o,rfl,rfl⟩
      case round=>
       obtain ⟨j,hj,hF,hX,hA,rfl,rfl⟩:=hrel;clear Cn jZ oZ;have u4:wr.cell? ⟨B,4,none⟩=some (.slice x.sa x.bR.length x.sc):=(hA.cell 4).trans rfl;have k3:=hF.cell;by_cases hlt:j<x.bR.length
       .have hE:=hX.ext HV.o eQ.o
        obtain ⟨b,o,ha,q0,-⟩:=(HS.o.ext hE).bR j hlt;have HT:=af (rj x.bR j hlt);have hb1:=Ql.o j ae;have hb2:=Ql.o (j+1) ae
        rw [HT.o]at hb2;generalize jk (x.bR.take j)=σ at*;generalize x.bR[j].width=y at*;have FZ:=af ha;have hws:IntKind.i64.wrap (σ+y)=σ+y:=nY;have mn:(0:Int)<=(j:Int):=ae;have mq:(j:Int)<(x.bR.length:Int):=ae;have HF:=af hF;have HX:=af hX;have HA:=af hA;have DJ:=af hb1;have I1:=af hb2
        clear hF hX hA hE ha hb1 hb2;rw [FZ.o]at u4;go_wp2
        exact ⟨⟨j+1,ae,HF.o,HX.o,HA.o,by rw [HT.o],bq⟩,bz⟩
       .obtain rfl:j=x.bR.length:=ae
        have u2:wr.cell? ⟨B,2,none⟩=some (i64 x.min):=(hA.cell 2).trans rfl;have u3:wr.cell? ⟨B,3,none⟩=some (i64 x.max):=(hA.cell 3).trans rfl;have Nu:=af (d_ wr K e3 (jk x.bR==M) 3 ix 4 4 hF);have HX:=af hX;have HQ:Hid ((jk x.bR==M)=decide (jk x.bR=M)):=by show _=_;rw [Bool.eq_iff_iff];simp
        rw [List.take_length];clear hF hX hA;go_wp2_with fail
        refine Nu.o.mono ?_;rintro e6 W6 ⟨rfl,X4,kZ⟩;go_wp2
        exact bodyPost_end (v:= .tuple #[]) aw rfl ⟨rfl,by rw [<-HQ.o];exact X4,HX.o.trans kZ⟩
     .have t1:(e3==0)=false:=by simpa using h0
      have t2:(e3 !=0)=true:=by simpa using h0
      have yx:=af (fZ h0 (decide (jk x.bR=M)) 4);clear h0 hi;go_loopw [10,11] (λvs ii wl=>FE wl K e3/\aH K V wl/\aY wl B 51 x.cells/\vs= .int .i64 0/\ii= .int .i64 0) (λ_ _ _=>0)
      case atStart=>exact ⟨Cn.o,jZ.o,oZ.o,rfl,rfl⟩
      case round=>
       obtain ⟨hF,hX,hA,rfl,rfl⟩:=hrel;clear Cn jZ oZ;have u4:wr.cell? ⟨B,4,none⟩=some (.slice x.sa x.bR.length x.sc):=(hA.cell 4).trans rfl;have u2:wr.cell? ⟨B,2,none⟩=some (i64 x.min):=(hA.cell 2).trans rfl;have u3:wr.cell? ⟨B,3,none⟩=some (i64 x.max):=(hA.cell 3).trans rfl;have k3:=hF.cell;have Nu:=af (d_ wr K e3 true 3 ix 4 4 hF);rw [jK]at Nu;have HX:=af hX;clear hF hX hA;by_cases hl:0<x.bR.length
       .have tl:decide ((0:Int)<(x.bR.length:Int))=true:=by simpa using hl
        go_wp2_with fail
        refine Nu.o.mono ?_;rintro e6 W6 ⟨rfl,X4,kZ⟩;go_wp2
        exact bodyPost_end (v:= .tuple #[]) aw rfl ⟨rfl,by rw [yx.o];exact X4,HX.o.trans kZ⟩
       .have tl:decide ((0:Int)<(x.bR.length:Int))=false:=by simpa using hl
        go_wp2_with fail
        refine Nu.o.mono ?_;rintro e6 W6 ⟨rfl,X4,kZ⟩;go_wp2
        exact bodyPost_end (v:= .tuple #[]) aw rfl ⟨rfl,by rw [yx.o];exact X4,HX.o.trans kZ⟩
def St.DM (s:St) (n:Int) (field:Int) (l:List Int):St:=l.foldl (λs v=>s.need (decide (0<=v)&&decide (v<n)) field 12) s
def St.Ru (s:St) (l:List cH):St:=l.foldl (λs m=>(s.within 3 m.up 0 1048576).within 3 m.down 0 1048576) s
def St.moves (s:St) (c:aq) (x:ee):St:=
 if((s.need (decide (x.moves.length=0)||x.bY) 3 16).need (decide ((x.moves.length:Int)<=16)) 3 8).err≠0 then(s.need (decide (x.moves.length=0)||x.bY) 3 16).need (decide ((x.moves.length:Int)<=16)) 3 8
 else(((((s.need (decide (x.moves.length=0)||x.bY) 3 16).need (decide ((x.moves.length:Int)<=16)) 3 8).DM c.ay.length 3 (x.moves.map cH.unit)).need (lr (x.moves.map cH.unit)) 3 11)).Ru x.moves
def St.ov (c:aq) (x:ee) (prev:List ByteArray) (i:Int) (s:St):St:=
 if((((s.at 6 i).name x.name prev).need (decide (x.lines.length=1)||decide (x.lines.length=2)) 1 4)).err≠0 then((s.at 6 i).name x.name prev).need (decide (x.lines.length=1)||decide (x.lines.length=2)) 1 4
 else(((((s.at 6 i).name x.name prev).need (decide (x.lines.length=1)||decide (x.lines.length=2)) 1 4).DM c.lines.length 1 x.lines).need (lr x.lines) 1 11).moves c x
def St.kh (c:aq) (s:St) (n:Nat):St:=(List.range n).foldl (λs i=>match c.outs[i]? with|some x=>St.ov c x ((c.outs.take i).map ee.name) i s|none=>s) s
def St.outs (s:St) (c:aq):St:=St.kh c s c.outs.length
theorem St.F_ (c:aq) (s:St) (i:Nat) (h:i<c.outs.length):St.kh c s (i+1)=St.ov c c.outs[i] ((c.outs.take i).map ee.name) i (St.kh c s i):=by
 unfold St.kh;rw [List.range_succ,List.foldl_append,List.foldl_cons,List.foldl_nil,List.getElem?_eq_getElem h]
theorem St.Ga (s:St) (n f:Int) (l:List Int) (v:Int):s.DM n f (l++ [v])=(s.DM n f l).need (decide (0<=v)&&decide (v<n)) f 12:=by
 unfold St.DM;rw [List.foldl_append];rfl
theorem St.O4 (s:St) (n f:Int) (l:List Int) (i:Nat) (h:i<l.length):s.DM n f (l.take (i+1))=(s.DM n f (l.take i)).need (decide (0<=l[i])&&decide (l[i]<n)) f 12:=by
 rw [List.take_succ_eq_append_getElem h,St.Ga]
theorem St.O5 (s:St) (l:List cH) (i:Nat) (h:i<l.length):s.Ru (l.take (i+1))=((s.Ru (l.take i)).within 3 l[i].up 0 1048576).within 3 l[i].down 0 1048576:=by
 unfold St.Ru;rw [List.take_succ_eq_append_getElem h,List.foldl_append];rfl
theorem St.Va (s:St) (k i:Int) (h:s.err≠0):s.at k i=s:=by unfold St.at;rw [if_neg h]
theorem St.O6 (s:St) (nm:ByteArray) (prev:List ByteArray) (h:s.err≠0):s.name nm prev=s:=by
 unfold St.name;rw [St.jy _ _ _ _ h,St.rf _ _ _ h]
theorem St.Gb (c:aq) (x:ee) (prev:List ByteArray) (i:Int) (s:St) (h:s.err≠0):St.ov c x prev i s=s:=by
 unfold St.ov;rw [St.Va _ _ _ h,St.O6 _ _ _ h,St.jy _ _ _ _ h,if_pos h]
theorem St.I8 (c:aq) (s:St) (i n:Nat) (hi:i<=n) (h:(St.kh c s i).err≠0):St.kh c s n=St.kh c s i:=by
 induction n with
 |zero=>rw [Nat.le_zero.1 hi]
 |succ n ih=>
  by_cases q:i=n+1
  .rw [q]
  .have h1:=ih ae
   unfold St.kh at*;rw [List.range_succ,List.foldl_append,List.foldl_cons,List.foldl_nil,h1];split
   .rw [St.Gb _ _ _ _ _ h]
   .rfl
def St.pk (c:aq) (x:cw) (prev:List ByteArray) (i:Int) (s:St):St:=((((((((((((((((((((((((s.at 3 i).name x.name prev).fc c 1 x.fc).within 2 x.min 0 1048576).within 3 x.max x.min 1048576).segments x).within 5 x.mA 0 1048576).within 6 x.mB 0 1048576).within 7 x.iW 0 1048576).within 8 x.gV x.min x.max).within 9 x.iX x.min x.max).within 10 x.mC 0 24).within 11 x.iY 0 24).within 12 x.startTime 0 24).within 13 x.j_ 0 1048576).within 14 x.iZ 0 1048576).within 15 x.ja 0 24).within 16 x.bC 0 1048576).within 17 x.ez 0 1048576).away c 18 x.away).need ((x.state==0)||(x.state==1)||(x.state==2)) 19 12).need ((x.state !=1)||(x.startTime !=0)) 19 16).within 20 x.hours 1 48).need ((x.state !=1)||decide (x.hours<=x.startTime)) 20 3).within 21 x.output (if x.state=2 then x.min else 0) (if x.state=2 then x.max else 0)
abbrev St.yY (c:aq) (s:St) (n:Nat):St:=St.upTo (St.pk c) cw.name c.ay s n
def St.ay (s:St) (c:aq):St:=St.yY c s c.ay.length
theorem RN (w0 V:World) (K:Nat) (c:aq) (s:St) (hK:w0.heap.size<=K) (hV:Ext w0 V) (hc:bK w0 c) (hn:c.ay.length<=1000000) (h:kg V K c s):
 Calls prog 90 #[.pointer (some ⟨K,0,none⟩)] V λe' w'=>oU V K c (s.ay c) e' w':=by
 have hle:=hc.ay.le;have eI:=hc.ay.cap
 rw [List.length_map]at hle;have si:=af (show∀args w,(callFunc 172 args).run prog w= .ok (.enter 172 args) w from enters_of func172 aw rfl);have HV:=af hV;have iL:=af hc;have eQ:=af hK;have lT:=af h.lt
 unfold St.ay;clear hc hV hK;go_enter func90,ntmps90
 go_upto_region 1 with fail
 generalize hW:World.alloc _ _=W;obtain ⟨B,hB,x0,A⟩:=aI hW;rw [<-hB];have mP:B≠K:=dB lT.o;have F:=λY (e:aH K W Y)=>(A.gw e mP).cs;replace F:=Bv F;have HK:=af (h.ext x0);have C:=fJ HK.o;have X:=aH.refl K W;have HX:=af (x0.but K);have HE:=af (HV.o.trans x0)
 clear hW A x0 hB h HV;go_wp2_with fail
 clear C;go_loopw [10] (λii wr=> ∃i:Nat,i<=c.ay.length/\kg wr K c (St.yY c s i)/\aH K W wr/\ii= .int .i64 i) (λii _=>c.ay.length-(intOf ii).toNat)
 case atStart=>exact ⟨0,bm,HK.o,X,rfl⟩
 case round=>
  clear X HK;obtain ⟨i,hi,hk,X,rfl⟩:=hrel;by_cases hlt:i<c.ay.length
  .have hE:=X.ext HE.o eQ.o
   obtain ⟨b,o,ha,D⟩:=(iL.o.ay.ext hE).adds i (by simpa using hlt);rw [List.getElem_map]at D;have iR:=af (iL.o.unit c.ay[i] (List.getElem_mem hlt));have vX:=af (St.oV (St.pk c) cw.name c.ay s i hlt);obtain ⟨prev,hp,uW,A_⟩:=FN cw.name c.ay i hlt;rw [<-hp]at vX;have tq:=af A_;have HK:=af hk
   generalize c.ay[i]=x at D iR vX;have mn:(0:Int)<=(i:Int):=ae;have mq:(i:Int)<(c.ay.length:Int):=ae;have HD:=af D;clear D;clear hp A_ hk;rw [ha];go_upto_region 4 with(first|(refine cT rfl 51 _ rfl ⟨b,o+i*22,none⟩ rfl x.cells _ HD.o underlying51 rfl aw ?_)|(refine aT rfl 51 _ _ rfl _ x.cells rfl rfl aw rfl rfl ?_))
   try simp only [Act.put]
   generalize hW1:World.alloc _ _=W1;obtain ⟨E,tK,x1,A⟩:=aI hW1;rw [<-tK];have oY:E≠K:=dB HK.o.lt;replace F:=λY (e:aH K W1 Y)=>And.intro (F Y ((X.trans (x1.but K)).trans e)) (A.gw e oY).cs;replace F:=Bv F;have jZ:=af (X.trans (x1.but K));have kH:=af (hE.trans x1)
   replace X:=aH.refl K W1;replace HK:=af (HK.o.ext x1);have P1:=FO;have oZ:=af A;clear A hW1 x1 tK hE ha HD;go_wp2_with (first|((first|(go_at_call 162;refine (FL _ K c _ _ _ HK.o).mono ?_)|(go_at_call 166;refine (vV _ K c _ _ iR.o.1 prev 172 B (λh=>by rw [uW.o];exact St.zK _ _ _ h) (by rw [uW.o];omega) si.o (λV' s' j hj uf Kl=>by obtain ⟨hj',ej⟩:=tq.o j hj;rw [ej];exact OC w0 V' K B c s' j eQ.o (uf.ext (X.ext kH.o eQ.o) eQ.o) iL.o Kl (F V' (X.trans uf)).1 hj') HK.o).mono ?_)|(go_at_call 169;refine (Kj _ K c _ _ _ HK.o).mono ?_)|(go_at_call 163;refine (j3 _ K c _ _ _ _ _ HK.o).mono ?_)|(go_at_call 165;refine (gj _ K c _ _ _ _ HK.o).mono ?_)|(go_at_call 173;refine (U1 w0 _ K c _ x eQ.o (X.ext kH.o eQ.o) iR.o.2.2.1 iR.o.2.2.2.1 HK.o).mono ?_)|(go_at_call 171;refine (Ow w0 _ K c _ _ _ _ _ eQ.o (X.ext kH.o eQ.o) iR.o.2.1 HK.o).mono ?_));rintro e w ⟨rfl,hk,hx⟩;replace X:=X.trans hx;replace HK:=af hk;clear hx hk)|(refine XT ?_)|(refine cT rfl 51 _ rfl ⟨E,0,none⟩ rfl x.cells _ (oZ.o.gw X oY).adds underlying51 rfl aw ?_))
   all_goals exact ⟨⟨i+1,ae,by rw [show St.yY c s (i+1)=_ from vX.o];(rename_i h;first|(have q:=eq_of_beq h;simpa [St.pk,q]using HK.o)|(have q: ¬x.state=2:=(by simpa using h);simpa [St.pk,q]using HK.o)),jZ.o.trans X,bq⟩,bz⟩
  .obtain rfl:i=c.ay.length:=ae
   go_wp2
   exact bodyPost_end (v:= .tuple #[]) aw rfl ⟨rfl,hk,HX.o.trans X⟩
