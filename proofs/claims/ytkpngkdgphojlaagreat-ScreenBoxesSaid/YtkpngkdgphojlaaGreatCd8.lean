/- Texts of the proof. -/
import Derived.Test.YtkpngkdgphojlaaGreatCd7
set_option linter.all false
set_option maxHeartbeats 4000000
set_option maxRecDepth 100000
namespace Go.Proofs.YtkpngkdgphojlaaGreat
open Go.Proofs.Tryz
open Go.RowKit
def iR (g:dp):Bool:=bk 1 1048576 [g.width]&&bk (-1048576) 1048576 [g.aX]
def oq (l:List dp) (n:Nat):Bool:=(List.range n).all fun j=>j==0||decide (CP l (j-1)≤CP l j)
def lj (e:Int) (x:aF):Int:=nd (nd (nd (nd e (decide ((x.aM.length:Int)≤8)) 8) (x.aM.all iR) 3) (oq x.aM x.aM.length) 11) (decide (bR x.aM=IntKind.i64.wrap (x.max-x.min))) 4
theorem Hs (l:List dp):oq l 1=true:=rfl
theorem Fv (l:List dp) (p:Nat):oq l (p+1+1)=(oq l (p+1)&&decide (CP l p≤CP l (p+1))):=by
 unfold oq;rw [List.range_succ,List.all_append];simp
theorem Ht (l:List dp) (i:Nat) (h1:1≤i) (h:l.length≤i) (h2:i≤l.length∨i=1):oq l i=oq l l.length:=by
 rcases h2 with h2|rfl
 ·rw [Nat.le_antisymm h2 h]
 ·have:l.length=0∨l.length=1:=by omega
  rcases this with e|e<;>rw [e]<;>rfl
theorem Av (l:List dp) (i:Nat) (h:i<l.length):(l.take (i+1)).all iR=((l.take i).all iR&&iR l[i]):=by
 rw [List.take_succ_eq_append_getElem h,List.all_append];simp
theorem aZ {e:Int} {ok:Bool} {code:Int} (hc:code≠0) (h:nd e ok code=0):e=0∧ok=true:=by
 unfold nd at h;split at h
 ·exact absurd h hc
 ·rename_i hn
  subst h;refine ⟨rfl,?_⟩;cases ok with
  |true=>rfl
  |false=>exact absurd ⟨rfl,rfl⟩ hn
theorem yJ (l:List dp) (h:l.all iR=true): ∀i,i≤l.length→0≤bR (l.take i)∧bR (l.take i)≤i*1048576:=by
 intro i;induction i with
 |zero=>intro _;simp [bR]
 |succ i ih=>
  intro hi;have:=ih (by omega);have kM:iR l[i]=true:=List.all_eq_true.1 h _ (List.getElem_mem (by omega));rw [nj l i (by omega)];unfold iR bk at kM;simp at kM;omega
theorem yK (w0 V:World) (K:Nat) (e:Int) (x:aF) (ix:Int) (hK:w0.heap.size≤K) (hV:Ext w0 V) (hs:bS w0 2 x.sa x.sc (x.aM.map dp.cells)) (Np: ∀g∈x.aM,gl [g.width,g.aX]) (h:FE V K e):
 Calls prog 101 #[.pointer (some ⟨K,0,none⟩),.agg #[.string x.name,i64 x.bus,i64 x.min,i64 x.max,.slice x.sa x.aM.length x.sc,i64 x.eu,i64 x.ez,i64 x.cD,i64 x.bW,i64 x.cE,i64 x.eE,i64 x.cF,i64 x.startTime,i64 x.dr,i64 x.cG,i64 x.cJ,i64 x.aV,i64 x.bg,.slice x.aa x.away.length x.ac,i64 x.state,i64 x.hours,i64 x.output],i64 ix] V fun e' w'=>qT V K (lj e x) e' w':=by
 have J9:=h.lt;have hle:=hs.le;have dy:=hs.cap
 rw [List.length_map]at hle;have HV:=ae hV;have HS:=ae hs;have VE:=ae Np;have cX:=ae hK
 unfold lj;obtain ⟨e1,Cu⟩: ∃e1,nd e (decide ((x.aM.length:Int)≤8)) 8=e1:=⟨_,rfl⟩;have Kb:=ae (fun U (hU:FE U K e)=>cf U K e (decide ((x.aM.length:Int)≤8)) 3 ix 4 8 hU);rw [Cu]at Kb⊢
 have Mh:e1=0→x.aM.length≤8:=fun h0=>by
  rw [←Cu]at h0;have:=(aZ (by decide) h0).2;rw [decide_eq_true_eq]at this;omega
 obtain ⟨M,hM⟩: ∃M,IntKind.i64.wrap (x.max-x.min)=M:=⟨_,rfl⟩;rw [hM];obtain ⟨e2,J_⟩: ∃e2,nd e1 (x.aM.all iR) 3=e2:=⟨_,rfl⟩;rw [J_];obtain ⟨e3,Mi⟩: ∃e3,nd e2 (oq x.aM x.aM.length) 11=e3:=⟨_,rfl⟩;rw [Mi]
 have hz:e3=0→x.aM.length≤8∧x.aM.all iR=true:=fun h0=>by
  rw [←Mi]at h0;have h1:=(aZ (by decide) h0).1;rw [←J_]at h1;have h2:=aZ (by decide) h1;exact ⟨Mh h2.1,h2.2⟩
 have Ub:=ae J_;have PA:=ae Mi;have HZ:=ae hz;have HH:=ae h
 clear hs hV Np h Mh Cu J_ Mi hz hK;go_enter func101,ntmps101
 go_upto_region 1 with fail
 obtain ⟨W,hW,x0,Z0,A0⟩:=aH V 67 x.cells;rw [show V.alloc (.cells #[.string x.name,i64 x.bus,i64 x.min,i64 x.max,.slice x.sa x.aM.length x.sc,i64 x.eu,i64 x.ez,i64 x.cD,i64 x.bW,i64 x.cE,i64 x.eE,i64 x.cF,i64 x.startTime,i64 x.dr,i64 x.cG,i64 x.cJ,i64 x.aV,i64 x.bg,.slice x.aa x.away.length x.ac,i64 x.state,i64 x.hours,i64 x.output] 67)=W from hW.symm];clear hW;obtain ⟨B,hB⟩: ∃B,B=V.heap.size:=⟨_,rfl⟩;rw [←hB]at A0⊢;have fP:B≠K:=by omega
 have zR:=ae A0;have X0:=ae x0
 have u4:W.cell? ⟨B,4,none⟩=some (.slice x.sa x.aM.length x.sc):=(A0.cell 4).trans rfl;clear hB Z0 A0 x0;go_wp2_with fail
 refine (Kb.o W (HH.o.ext X0.o)).mono ?_;rintro e5 W1 ⟨rfl,Mj,hx1⟩;clear u4;have mY:=ae (zR.o.but hx1 fP);have fJ:=ae ((X0.o.but K).trans hx1);have sj:=ae Mj;have u4:=mY.o.cl 4 (.slice x.sa x.aM.length x.sc) rfl;clear hx1 zR HH Kb X0 Mj;go_wp2_with fail
 clear u4;go_loopw [23] (fun ii wr=> ∃i:Nat,i≤x.aM.length∧FE wr K (nd e1 ((x.aM.take i).all iR) 3)∧ar K V wr∧aJ wr B 67 x.cells∧ii= .int .i64 i) (fun ii _=>x.aM.length-(intOf ii).toNat)
 case atStart=>exact ⟨0,Nat.zero_le _,by simpa [bI]using sj.o,fJ.o,mY.o,rfl⟩
 case round=>
  obtain ⟨i,hi,hF,hX,hA,rfl⟩:=hrel;clear sj fJ mY;by_cases hlt:i<x.aM.length
  ·have hE:=hX.ext HV.o cX.o
   obtain ⟨b,o,ha,c0,c1⟩:=(HS.o.ext hE).aM i hlt;have HT:=ae (Av x.aM i hlt);have GM:=VE.o x.aM[i] (List.getElem_mem hlt);generalize (x.aM.take i).all iR=q at*;obtain ⟨g,hg⟩: ∃g,g=x.aM[i]:=⟨_,rfl⟩;rw [←hg]at c0 c1 HT GM;have VH:=ae (GM g.width (by simp));have VI:=ae (GM g.aX (by simp))
   have HF:=ae hF;have HX:=ae hX;have HA:=ae hA;have HE:=ae hE
   have f_:(0:Int)≤(i:Int):=by omega
   have fU:(i:Int)<(x.aM.length:Int):=by omega
   clear hF hX hA hE hg GM;rw [ha];go_upto_region 6 with fail
   obtain ⟨W2,hW2,x2,Z2,A2⟩:=aH wr 138 g.cells;rw [show wr.alloc (.cells #[i64 g.width,i64 g.aX] 138)=W2 from hW2.symm];clear hW2;obtain ⟨E,lh⟩: ∃E,E=wr.heap.size:=⟨_,rfl⟩;rw [←lh]at A2⊢;have lg:E≠K:=by have:=HF.o.lt;omega
   have KR:=ae A2;have CT:=ae (HF.o.ext x2);have tB:=ae (HA.o.ext x2)
   have fg:Hid (ar K V W2):=HX.o.trans (x2.but K);have Uc:=ae (mI e1 q (iR g) 3 (by decide));clear lh Z2 A2 c0 c1 x2 ha;have z0:=KR.o.cl 0 (i64 g.width) rfl;have z1:=KR.o.cl 1 (i64 g.aX) rfl;have HQ:=ae (show iR g=(bk 1 1048576 [g.width]&&bk (-1048576) 1048576 [g.aX])from rfl);have CU:=ae (yD W2 g.width 1 1048576 VH.o);rcases Bool.eq_false_or_eq_true (bk 1 1048576 [g.width])with hp|hp
   ·rw [hp]at CU HQ
    clear hp;go_wp2_with fail
    refine CU.o.mono ?_;rintro e6 w1 ⟨rfl,rfl⟩;obtain ⟨W3,hW3,x3,Z3,-⟩:=aH W2 3 [i64 g.width];rw [show W2.alloc (.cells #[i64 g.width] 3)=W3 from hW3.symm];have z1:=aj x3 z1;have mS:=ae x3;clear z0 hW3 Z3 x3;go_wp2_with fail
    refine (yD W3 g.aX (-1048576) 1048576 VI.o).mono ?_;rintro e6 w1 ⟨rfl,rfl⟩;go_wp2_with fail
    refine (cf _ K _ _ _ _ _ _ ((CT.o.ext mS.o).alloc _)).mono ?_;rintro e6 W4 ⟨rfl,Hk,j8⟩;have Mf:=ae Hk;have qX:Hid (ar K V W4):=((fg.o.trans (mS.o.but K)).alloc' _).trans j8;have zS:Hid (aJ W4 B 67 x.cells):=((tB.o.ext mS.o).alloc' _).but j8 fP;clear Hk j8;go_wp2_with fail
    exact ⟨⟨i+1,by omega,by rw [HT.o,←Uc.o,HQ.o,Bool.true_and];exact Mf.o,qX.o,zS.o,by go_num⟩,by simp only [intOf];omega⟩
   ·rw [hp]at CU HQ
    clear hp;go_wp2_with fail
    refine CU.o.mono ?_;rintro e6 w1 ⟨rfl,rfl⟩;go_wp2_with fail
    refine (cf _ K _ _ _ _ _ _ (CT.o.alloc _)).mono ?_;rintro e6 W4 ⟨rfl,Hk,j8⟩;have Mf:=ae Hk;have qX:Hid (ar K V W4):=(fg.o.alloc' _).trans j8;have zS:Hid (aJ W4 B 67 x.cells):=(tB.o.alloc' _).but j8 fP;clear Hk j8;go_wp2_with fail
    exact ⟨⟨i+1,by omega,by rw [HT.o,←Uc.o,HQ.o,Bool.false_and];exact Mf.o,qX.o,zS.o,by go_num⟩,by simp only [intOf];omega⟩
  ·obtain rfl:i=x.aM.length:=by omega
   rw [List.take_length,Ub.o]at hF;have sj:=ae hF;have fJ:=ae hX;have mY:=ae hA
   clear hF hX hA;go_wp2_with fail
   go_loopw [9] (fun ii wl=> ∃i:Nat,1≤i∧(i≤x.aM.length∨i=1)∧FE wl K (nd e2 (oq x.aM i) 11)∧ar K V wl∧aJ wl B 67 x.cells∧ii= .int .i64 i) (fun ii _=>x.aM.length-(intOf ii).toNat)
   case atStart=>exact ⟨1,Nat.le_refl _,Or.inr rfl,by simpa [bI,Hs]using sj.o,fJ.o,mY.o,rfl⟩
   case round=>
    obtain ⟨i,h1,hi,hF,hX,hA,rfl⟩:=hrel;clear sj fJ mY;have u4:wr.cell? ⟨B,4,none⟩=some (.slice x.sa x.aM.length x.sc):=(hA.cell 4).trans rfl;by_cases hlt:i<x.aM.length
    ·obtain ⟨p,rfl⟩: ∃p,i=p+1:=⟨i-1,by omega⟩
     have hE:=hX.ext HV.o cX.o;obtain ⟨b,o,ha,-,q1⟩:=(HS.o.ext hE).aM (p+1) hlt;obtain ⟨b',o',ha',-,q0⟩:=(HS.o.ext hE).aM p (by omega);rw [ha]at ha';cases ha'
     rw [←yH hlt]at q1;rw [←yH (show p<x.aM.length by omega)]at q0;have Qx:=ae (Fv x.aM p);have qK:=ae ha;have CT:=ae hF;have fg:=ae hX;have tB:=ae hA
     have hw:IntKind.i64.wrap (((p+1:Nat):Int)-1)=(p:Int):=by rw [IntKind.wrap_i64];omega
     have hw2:IntKind.i64.wrap (p:Int)=(p:Int):=by rw [IntKind.wrap_i64];omega
     have f_:(0:Int)≤((p+1:Nat):Int):=by omega
     have fU:((p+1:Nat):Int)<(x.aM.length:Int):=by omega
     have Qr:(0:Int)≤(p:Int):=by omega
     have Nh:(p:Int)<(x.aM.length:Int):=by omega
     have Qs:(0:Int)≤(p:Int)+1:=by omega
     have Ni:(p:Int)+1<(x.aM.length:Int):=by omega
     have Vx: ¬((p:Int)+1<0):=by omega
     generalize CP x.aM (p+1)=y1 at*;generalize CP x.aM p=y0 at*;generalize oq x.aM (p+1)=q at*;have GK:=ae (fun U (hU:FE U K (nd e2 q 11))=>cf U K (nd e2 q 11) (decide (y0≤y1)) 3 ix 4 11 hU)
     have Mk:=ae (show∀U:World,(∀q v,wr.cell? q=some v→q.block≠K→U.cell? q=some v)→U.cell? ⟨B,4,none⟩=some (.slice x.sa x.aM.length x.sc)∧U.cell? ⟨b,o+(p+1)*2+1,none⟩=some (i64 y1)∧U.cell? ⟨b,o+p*2+1,none⟩=some (i64 y0)from fun U hU=>by
      have KL:b≠K:=by
       obtain ⟨b'',o'',QB,z0,-⟩:=HS.o.aM p (by omega);rw [qK.o]at QB;cases QB
       have:=bm z0;simp only at this;have:=cX.o;omega
      exact ⟨hU _ _ u4 fP,hU _ _ q1 KL,hU _ _ q0 KL⟩)
     clear ha hF hX hA hE q1 q0;go_wp2_with fail
     clear u4;refine aB (fun w'=>w'.cell? ⟨B,4,none⟩=some (.slice x.sa x.aM.length x.sc)∧w'.cell? ⟨b,o+(p+1)*2+1,none⟩=some (i64 y1)∧w'.cell? ⟨b,o+p*2+1,none⟩=some (i64 y0)) (fun w'=>True) (fun i=>false) (by kernel_rfl) (Mk.o _ (fun _ _ hq _=>hq)) (trivial) (fun aq ah=> ?_);refine ay 0 aq ah ?_;refine ay 1 aq ah ?_;refine ay 2 aq ah ?_;refine ay 3 aq ah ?_ (v:= .int .i64 ((p+1:Nat):Int));refine ay 4 aq ah ?_ (hy:=by rintro w ⟨e0,e1,e2⟩;have ha:=qK.o;go_simp;try rfl);refine ay 5 aq ah ?_;refine ay 6 aq ah ?_ (v:=i64 y1);refine ay 7 aq ah ?_;refine ay 8 aq ah ?_;refine ay 9 aq ah ?_ (v:= .int .i64 ((p+1:Nat):Int));refine ay 10 aq ah ?_ (v:= .int .i64 (p:Int));refine ay 11 aq ah ?_ (hy:=by rintro w ⟨e0,e1,e2⟩;have ha:=qK.o;go_simp;try rfl);refine ay 12 aq ah ?_;refine ay 13 aq ah ?_ (v:=i64 y0);refine ay 14 aq ah ?_ (v:= .bool (decide (y0≤y1)));refine ay 15 aq ah ?_ (v:=i64 3);refine ay 16 aq ah ?_ (v:=i64 ix);refine dX 17 rfl (fun Kc hK=> ?_);go_simp;refine (GK.o wr.drew (CT.o.ext (Ext.refl _).drew)).mono ?_;rintro e5 W5 ⟨rfl,Hl,eY⟩;refine hK.o _ _ (Mk.o _ (fun q v hq hb=>bL (aj (Ext.refl wr).drew hq) eY hb)) (trivial) (fun aq ah=> ?_);clear hK Kc;try simp only [sS]
     refine ax (by kernel_rfl) ?_ _;clear aq ah
     have VC:Hid (FE W5 K (nd e2 (q&&decide (y0≤y1)) 11)):=by
      show FE _ _ _;rw [←mI _ _ _ _ (by decide)];exact Hl
     have CV:Hid (aJ W5 B 67 x.cells):=(tB.o.ext (Ext.refl _).drew).but eY fP;have wm:Hid (ar K V W5):=fg.o.trans (((Ext.refl wr).drew.but K).trans eY);clear Hl eY;go_wp2_with fail
     exact ⟨⟨p+1+1,by omega,Or.inl (by omega),by rw [Qx.o];exact VC.o,wm.o,CV.o,by go_num⟩,by simp only [intOf];omega⟩
    ·rw [Ht x.aM i h1 (by omega) hi,PA.o]at hF
     have sj:=ae hF;have fJ:=ae hX;have mY:=ae hA
     clear hF hX hA;go_wp2_with fail
     clear u4;by_cases h0:e3=0
     ·obtain ⟨h8,hall⟩:=HZ.o h0
      have Ka:=ae (yJ x.aM hall);have t1:(e3==0)=true:=by simpa using h0
      have t2:(e3 !=0)=false:=by simpa using h0
      have H0:=ae h0;clear h0 hall hi;go_loopw [10,11] (fun vs ii wl=> ∃j:Nat,j≤x.aM.length∧FE wl K e3∧ar K V wl∧aJ wl B 67 x.cells∧vs= .int .i64 (bR (x.aM.take j))∧ii= .int .i64 j) (fun _ ii _=>x.aM.length-(intOf ii).toNat)
      case atStart=>exact ⟨0,Nat.zero_le _,sj.o,fJ.o,mY.o,rfl,rfl⟩
      case round=>
       obtain ⟨j,hj,hF,hX,hA,rfl,rfl⟩:=hrel;clear sj fJ mY;have u4:wr.cell? ⟨B,4,none⟩=some (.slice x.sa x.aM.length x.sc):=(hA.cell 4).trans rfl;have k3:=hF.cell;by_cases hlt:j<x.aM.length
       ·have hE:=hX.ext HV.o cX.o
        obtain ⟨b,o,ha,q0,-⟩:=(HS.o.ext hE).aM j hlt;have HT:=ae (nj x.aM j hlt);have hb1:=Ka.o j (by omega);have hb2:=Ka.o (j+1) (by omega)
        rw [HT.o]at hb2;generalize bR (x.aM.take j)=σ at*;generalize x.aM[j].width=y at*;have qK:=ae ha;have hws:IntKind.i64.wrap (σ+y)=σ+y:=by rw [IntKind.wrap_i64];omega
        have f_:(0:Int)≤(j:Int):=by omega
        have fU:(j:Int)<(x.aM.length:Int):=by omega
        have HF:=ae hF;have HX:=ae hX;have HA:=ae hA;have CU:=ae hb1;have q9:=ae hb2
        clear hF hX hA hE ha hb1 hb2;rw [qK.o]at u4;go_wp2_with fail
        exact ⟨⟨j+1,by omega,HF.o,HX.o,HA.o,by rw [HT.o],by go_num⟩,by simp only [intOf];omega⟩
       ·obtain rfl:j=x.aM.length:=by omega
        have u2:wr.cell? ⟨B,2,none⟩=some (i64 x.min):=(hA.cell 2).trans rfl;have u3:wr.cell? ⟨B,3,none⟩=some (i64 x.max):=(hA.cell 3).trans rfl;have GK:=ae (cf wr K e3 (bR x.aM==M) 3 ix 4 4 hF);have HX:=ae hX;have HQ:Hid ((bR x.aM==M)=decide (bR x.aM=M)):=by show _=_;rw [Bool.eq_iff_iff];simp
        rw [List.take_length];clear hF hX hA;go_wp2_with fail
        refine GK.o.mono ?_;rintro e6 W6 ⟨rfl,KS,kU⟩;go_wp2_with fail
        exact bodyPost_end (v:= .tuple #[]) (by simp [results,results101,go_sem]) rfl ⟨rfl,by rw [←HQ.o];exact KS,HX.o.trans kU⟩
     ·have t1:(e3==0)=false:=by simpa using h0
      have t2:(e3 !=0)=true:=by simpa using h0
      have jV:=ae (ee h0 (decide (bR x.aM=M)) 4);clear h0 hi;go_loopw [10,11] (fun vs ii wl=>FE wl K e3∧ar K V wl∧aJ wl B 67 x.cells∧vs= .int .i64 0∧ii= .int .i64 0) (fun _ _ _=>0)
      case atStart=>exact ⟨sj.o,fJ.o,mY.o,rfl,rfl⟩
      case round=>
       obtain ⟨hF,hX,hA,rfl,rfl⟩:=hrel;clear sj fJ mY;have u4:wr.cell? ⟨B,4,none⟩=some (.slice x.sa x.aM.length x.sc):=(hA.cell 4).trans rfl;have u2:wr.cell? ⟨B,2,none⟩=some (i64 x.min):=(hA.cell 2).trans rfl;have u3:wr.cell? ⟨B,3,none⟩=some (i64 x.max):=(hA.cell 3).trans rfl;have k3:=hF.cell;have GK:=ae (cf wr K e3 true 3 ix 4 4 hF);rw [bI]at GK;have HX:=ae hX;clear hF hX hA;by_cases hl:0<x.aM.length
       ·have tl:decide ((0:Int)<(x.aM.length:Int))=true:=by simpa using hl
        go_wp2_with fail
        refine GK.o.mono ?_;rintro e6 W6 ⟨rfl,KS,kU⟩;go_wp2_with fail
        exact bodyPost_end (v:= .tuple #[]) (by simp [results,results101,go_sem]) rfl ⟨rfl,by rw [jV.o];exact KS,HX.o.trans kU⟩
       ·have tl:decide ((0:Int)<(x.aM.length:Int))=false:=by simpa using hl
        go_wp2_with fail
        refine GK.o.mono ?_;rintro e6 W6 ⟨rfl,KS,kU⟩;go_wp2_with fail
        exact bodyPost_end (v:= .tuple #[]) (by simp [results,results101,go_sem]) rfl ⟨rfl,by rw [jV.o];exact KS,HX.o.trans kU⟩
end Go.Proofs.YtkpngkdgphojlaaGreat
