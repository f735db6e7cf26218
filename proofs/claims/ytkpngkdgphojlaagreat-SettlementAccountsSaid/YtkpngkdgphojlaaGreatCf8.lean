/- Texts of the proof. -/
import Derived.Test.YtkpngkdgphojlaaGreatCf6
set_option linter.all false
set_option maxHeartbeats 4000000
set_option maxRecDepth 100000
namespace Go.Proofs.YtkpngkdgphojlaaGreat
open Go.Proofs.Tryz
open Go.RowKit
def jn (g:dH):Bool:=bP 1 1048576 [g.width]&&bP (-1048576) 1048576 [g.aV]
def pC (l:List dH) (n:Nat):Bool:=(List.range n).all fun j=>j==0||decide (De l (j-1)≤De l j)
def mF (e:Int) (x:aK):Int:=nd (nd (nd (nd e (decide ((x.aU.length:Int)≤8)) 8) (x.aU.all jn) 3) (pC x.aU x.aU.length) 11) (decide (cE x.aU=IntKind.i64.wrap (x.max-x.min))) 4
theorem IG (l:List dH):pC l 1=true:=rfl
theorem Gj (l:List dH) (p:Nat):pC l (p+1+1)=(pC l (p+1)&&decide (De l p≤De l (p+1))):=by
 unfold pC;rw [List.range_succ,List.all_append];simp
theorem IH (l:List dH) (i:Nat) (h1:1≤i) (h:l.length≤i) (h2:i≤l.length∨i=1):pC l i=pC l l.length:=by
 rcases h2 with h2|rfl
 ·rw [Nat.le_antisymm h2 h]
 ·have:l.length=0∨l.length=1:=by omega
  rcases this with e|e<;>rw [e]<;>rfl
theorem Bb (l:List dH) (i:Nat) (h:i<l.length):(l.take (i+1)).all jn=((l.take i).all jn&&jn l[i]):=by
 rw [List.take_succ_eq_append_getElem h,List.all_append];simp
theorem bt {e:Int} {ok:Bool} {code:Int} (hc:code≠0) (h:nd e ok code=0):e=0∧ok=true:=by
 unfold nd at h;split at h
 ·exact absurd h hc
 ·rename_i hn
  subst h;refine ⟨rfl,?_⟩;cases ok with
  |true=>rfl
  |false=>exact absurd ⟨rfl,rfl⟩ hn
theorem zm (l:List dH) (h:l.all jn=true): ∀i,i≤l.length→0≤cE (l.take i)∧cE (l.take i)≤i*1048576:=by
 intro i;induction i with
 |zero=>intro _;simp [cE]
 |succ i ih=>
  intro hi;have:=ih (by omega);have pY:jn l[i]=true:=List.all_eq_true.1 h _ (List.getElem_mem (by omega));rw [ot l i (by omega)];unfold jn bP at pY;simp at pY;omega
theorem zn (w0 V:World) (K:Nat) (e:Int) (x:aK) (ix:Int) (hK:w0.heap.size≤K) (hV:Ext w0 V) (hs:bH w0 2 x.sa x.sc (x.aU.map dH.cells)) (N7: ∀g∈x.aU,eI [g.width,g.aV]) (h:FE V K e):
 Calls prog 101 #[.pointer (some ⟨K,0,none⟩),.agg #[.string x.name,i64 x.cS,i64 x.min,i64 x.max,.slice x.sa x.aU.length x.sc,i64 x.fu,i64 x.fw,i64 x.dv,i64 x.cL,i64 x.dx,i64 x.fz,i64 x.dy,i64 x.startTime,i64 x.dS,i64 x.dz,i64 x.dA,i64 x.aA,i64 x.bK,.slice x.aa x.away.length x.ac,i64 x.state,i64 x.hours,i64 x.output],i64 ix] V fun e' w'=>sy V K (mF e x) e' w':=by
 have KF:=h.lt;have hle:=hs.le;have dQ:=hs.cap
 rw [List.length_map]at hle;have HV:=ae hV;have HS:=ae hs;have Wl:=ae N7;have df:=ae hK
 unfold mF;obtain ⟨e1,CI⟩: ∃e1,nd e (decide ((x.aU.length:Int)≤8)) 8=e1:=⟨_,rfl⟩;have Lh:=ae (fun U (hU:FE U K e)=>cP U K e (decide ((x.aU.length:Int)≤8)) 3 ix 4 8 hU);rw [CI]at Lh⊢
 have MW:e1=0→x.aU.length≤8:=fun h0=>by
  rw [←CI]at h0;have:=(bt (by decide) h0).2;rw [decide_eq_true_eq]at this;omega
 obtain ⟨M,hM⟩: ∃M,IntKind.i64.wrap (x.max-x.min)=M:=⟨_,rfl⟩;rw [hM];obtain ⟨e2,Ge⟩: ∃e2,nd e1 (x.aU.all jn) 3=e2:=⟨_,rfl⟩;rw [Ge];obtain ⟨e3,MX⟩: ∃e3,nd e2 (pC x.aU x.aU.length) 11=e3:=⟨_,rfl⟩;rw [MX]
 have hz:e3=0→x.aU.length≤8∧x.aU.all jn=true:=fun h0=>by
  rw [←MX]at h0;have h1:=(bt (by decide) h0).1;rw [←Ge]at h1;have h2:=bt (by decide) h1;exact ⟨MW h2.1,h2.2⟩
 have Qc:=ae Ge;have Qd:=ae MX;have HZ:=ae hz;have HH:=ae h
 clear hs hV N7 h MW CI Ge MX hz hK;go_enter func101,ntmps101
 go_upto_region 1 with fail
 obtain ⟨W,hW,x0,Z0,A0⟩:=aX V 67 x.cells;rw [show V.alloc (.cells #[.string x.name,i64 x.cS,i64 x.min,i64 x.max,.slice x.sa x.aU.length x.sc,i64 x.fu,i64 x.fw,i64 x.dv,i64 x.cL,i64 x.dx,i64 x.fz,i64 x.dy,i64 x.startTime,i64 x.dS,i64 x.dz,i64 x.dA,i64 x.aA,i64 x.bK,.slice x.aa x.away.length x.ac,i64 x.state,i64 x.hours,i64 x.output] 67)=W from hW.symm];clear hW;obtain ⟨B,hB⟩: ∃B,B=V.heap.size:=⟨_,rfl⟩;rw [←hB]at A0⊢;have gQ:B≠K:=by omega
 have Ax:=ae A0;have X0:=ae x0
 have u4:W.cell? ⟨B,4,none⟩=some (.slice x.sa x.aU.length x.sc):=(A0.cell 4).trans rfl;clear hB Z0 A0 x0;go_wp2_with fail
 refine (Lh.o W (HH.o.ext X0.o)).mono ?_;rintro e5 W1 ⟨rfl,Qe,hx1⟩;clear u4;have mi:=ae (Ax.o.but hx1 gQ);have eE:=ae ((X0.o.but K).trans hx1);have vh:=ae Qe;have u4:=mi.o.cl 4 (.slice x.sa x.aU.length x.sc) rfl;clear hx1 Ax HH Lh X0 Qe;go_wp2_with fail
 clear u4;go_loopw [23] (fun ii wr=> ∃i:Nat,i≤x.aU.length∧FE wr K (nd e1 ((x.aU.take i).all jn) 3)∧ar K V wr∧aQ wr B 67 x.cells∧ii= .int .i64 i) (fun ii _=>x.aU.length-(intOf ii).toNat)
 case atStart=>exact ⟨0,Nat.zero_le _,by simpa [bY]using vh.o,eE.o,mi.o,rfl⟩
 case round=>
  obtain ⟨i,hi,hF,hX,hA,rfl⟩:=hrel;clear vh eE mi;by_cases hlt:i<x.aU.length
  ·have hE:=hX.ext HV.o df.o
   obtain ⟨b,o,ha,c0,c1⟩:=(HS.o.ext hE).aU i hlt;have HT:=ae (Bb x.aU i hlt);have Hy:=Wl.o x.aU[i] (List.getElem_mem hlt);generalize (x.aU.take i).all jn=q at*;obtain ⟨g,hg⟩: ∃g,g=x.aU[i]:=⟨_,rfl⟩;rw [←hg]at c0 c1 HT Hy;have Wz:=ae (Hy g.width (by simp));have WA:=ae (Hy g.aV (by simp))
   have HF:=ae hF;have HX:=ae hX;have HA:=ae hA;have HE:=ae hE
   have jS:(0:Int)≤(i:Int):=by omega
   have jI:(i:Int)<(x.aU.length:Int):=by omega
   clear hF hX hA hE hg Hy;rw [ha];go_upto_region 6 with fail
   obtain ⟨W2,hW2,x2,Z2,A2⟩:=aX wr 138 g.cells;rw [show wr.alloc (.cells #[i64 g.width,i64 g.aV] 138)=W2 from hW2.symm];clear hW2;obtain ⟨E,nP⟩: ∃E,E=wr.heap.size:=⟨_,rfl⟩;rw [←nP]at A2⊢;have mC:E≠K:=by have:=HF.o.lt;omega
   have Li:=ae A2;have Gf:=ae (HF.o.ext x2);have sq:=ae (HA.o.ext x2)
   have ez:Hid (ar K V W2):=HX.o.trans (x2.but K);have UR:=ae (nL e1 q (jn g) 3 (by decide));clear nP Z2 A2 c0 c1 x2 ha;have z0:=Li.o.cl 0 (i64 g.width) rfl;have z1:=Li.o.cl 1 (i64 g.aV) rfl;have HQ:=ae (show jn g=(bP 1 1048576 [g.width]&&bP (-1048576) 1048576 [g.aV])from rfl);have Dm:=ae (zb W2 g.width 1 1048576 Wz.o);rcases Bool.eq_false_or_eq_true (bP 1 1048576 [g.width])with hp|hp
   ·rw [hp]at Dm HQ
    clear hp;go_wp2_with fail
    refine Dm.o.mono ?_;rintro e6 w1 ⟨rfl,rfl⟩;obtain ⟨W3,hW3,x3,Z3,-⟩:=aX W2 3 [i64 g.width];rw [show W2.alloc (.cells #[i64 g.width] 3)=W3 from hW3.symm];have z1:=ak x3 z1;have kX:=ae x3;clear z0 hW3 Z3 x3;go_wp2_with fail
    refine (zb W3 g.aV (-1048576) 1048576 WA.o).mono ?_;rintro e6 w1 ⟨rfl,rfl⟩;go_wp2_with fail
    refine (cP _ K _ _ _ _ _ _ ((Gf.o.ext kX.o).alloc _)).mono ?_;rintro e6 W4 ⟨rfl,Iw,fl⟩;have MS:=ae Iw;have qI:Hid (ar K V W4):=((ez.o.trans (kX.o.but K)).alloc' _).trans fl;have um:Hid (aQ W4 B 67 x.cells):=((sq.o.ext kX.o).alloc' _).but fl gQ;clear Iw fl;go_wp2_with fail
    exact ⟨⟨i+1,by omega,by rw [HT.o,←UR.o,HQ.o,Bool.true_and];exact MS.o,qI.o,um.o,by go_num⟩,by simp only [intOf];omega⟩
   ·rw [hp]at Dm HQ
    clear hp;go_wp2_with fail
    refine Dm.o.mono ?_;rintro e6 w1 ⟨rfl,rfl⟩;go_wp2_with fail
    refine (cP _ K _ _ _ _ _ _ (Gf.o.alloc _)).mono ?_;rintro e6 W4 ⟨rfl,Iw,fl⟩;have MS:=ae Iw;have qI:Hid (ar K V W4):=(ez.o.alloc' _).trans fl;have um:Hid (aQ W4 B 67 x.cells):=(sq.o.alloc' _).but fl gQ;clear Iw fl;go_wp2_with fail
    exact ⟨⟨i+1,by omega,by rw [HT.o,←UR.o,HQ.o,Bool.false_and];exact MS.o,qI.o,um.o,by go_num⟩,by simp only [intOf];omega⟩
  ·obtain rfl:i=x.aU.length:=by omega
   rw [List.take_length,Qc.o]at hF;have vh:=ae hF;have eE:=ae hX;have mi:=ae hA
   clear hF hX hA;go_wp2_with fail
   go_loopw [9] (fun ii wl=> ∃i:Nat,1≤i∧(i≤x.aU.length∨i=1)∧FE wl K (nd e2 (pC x.aU i) 11)∧ar K V wl∧aQ wl B 67 x.cells∧ii= .int .i64 i) (fun ii _=>x.aU.length-(intOf ii).toNat)
   case atStart=>exact ⟨1,Nat.le_refl _,Or.inr rfl,by simpa [bY,IG]using vh.o,eE.o,mi.o,rfl⟩
   case round=>
    obtain ⟨i,h1,hi,hF,hX,hA,rfl⟩:=hrel;clear vh eE mi;have u4:wr.cell? ⟨B,4,none⟩=some (.slice x.sa x.aU.length x.sc):=(hA.cell 4).trans rfl;by_cases hlt:i<x.aU.length
    ·obtain ⟨p,rfl⟩: ∃p,i=p+1:=⟨i-1,by omega⟩
     have hE:=hX.ext HV.o df.o;obtain ⟨b,o,ha,-,q1⟩:=(HS.o.ext hE).aU (p+1) hlt;obtain ⟨b',o',ha',-,q0⟩:=(HS.o.ext hE).aU p (by omega);rw [ha]at ha';cases ha'
     rw [←zg hlt]at q1;rw [←zg (show p<x.aU.length by omega)]at q0;have Q8:=ae (Gj x.aU p);have uF:=ae ha;have Gf:=ae hF;have ez:=ae hX;have sq:=ae hA
     have hw:IntKind.i64.wrap (((p+1:Nat):Int)-1)=(p:Int):=by rw [IntKind.wrap_i64];omega
     have hw2:IntKind.i64.wrap (p:Int)=(p:Int):=by rw [IntKind.wrap_i64];omega
     have jS:(0:Int)≤((p+1:Nat):Int):=by omega
     have jI:((p+1:Nat):Int)<(x.aU.length:Int):=by omega
     have NZ:(0:Int)≤(p:Int):=by omega
     have N1:(p:Int)<(x.aU.length:Int):=by omega
     have CY:(0:Int)≤(p:Int)+1:=by omega
     have CZ:(p:Int)+1<(x.aU.length:Int):=by omega
     have We: ¬((p:Int)+1<0):=by omega
     generalize De x.aU (p+1)=y1 at*;generalize De x.aU p=y0 at*;generalize pC x.aU (p+1)=q at*;have Hx:=ae (fun U (hU:FE U K (nd e2 q 11))=>cP U K (nd e2 q 11) (decide (y0≤y1)) 3 ix 4 11 hU)
     have HKS:=ae (show∀U:World,(∀q v,wr.cell? q=some v→q.block≠K→U.cell? q=some v)→U.cell? ⟨B,4,none⟩=some (.slice x.sa x.aU.length x.sc)∧U.cell? ⟨b,o+(p+1)*2+1,none⟩=some (i64 y1)∧U.cell? ⟨b,o+p*2+1,none⟩=some (i64 y0)from fun U hU=>by
      have La:b≠K:=by
       obtain ⟨b'',o'',Rl,z0,-⟩:=HS.o.aU p (by omega);rw [uF.o]at Rl;cases Rl
       have:=cG z0;simp only at this;have:=df.o;omega
      exact ⟨hU _ _ u4 gQ,hU _ _ q1 La,hU _ _ q0 La⟩)
     clear ha hF hX hA hE q1 q0;go_wp2_with fail
     clear u4;refine aL (fun w'=>w'.cell? ⟨B,4,none⟩=some (.slice x.sa x.aU.length x.sc)∧w'.cell? ⟨b,o+(p+1)*2+1,none⟩=some (i64 y1)∧w'.cell? ⟨b,o+p*2+1,none⟩=some (i64 y0)) (fun w'=>True) (fun i=>false) (by kernel_rfl) (HKS.o _ (fun _ _ hq _=>hq)) (trivial) (fun ay ah=> ?_);refine aF 0 ay ah ?_;refine aF 1 ay ah ?_;refine aF 2 ay ah ?_;refine aF 3 ay ah ?_ (v:= .int .i64 ((p+1:Nat):Int));refine aF 4 ay ah ?_ (hy:=by rintro w ⟨e0,e1,e2⟩;have ha:=uF.o;go_simp;try rfl);refine aF 5 ay ah ?_;refine aF 6 ay ah ?_ (v:=i64 y1);refine aF 7 ay ah ?_;refine aF 8 ay ah ?_;refine aF 9 ay ah ?_ (v:= .int .i64 ((p+1:Nat):Int));refine aF 10 ay ah ?_ (v:= .int .i64 (p:Int));refine aF 11 ay ah ?_ (hy:=by rintro w ⟨e0,e1,e2⟩;have ha:=uF.o;go_simp;try rfl);refine aF 12 ay ah ?_;refine aF 13 ay ah ?_ (v:=i64 y0);refine aF 14 ay ah ?_ (v:= .bool (decide (y0≤y1)));refine aF 15 ay ah ?_ (v:=i64 3);refine aF 16 ay ah ?_ (v:=i64 ix);refine fp 17 rfl (fun Kc hK=> ?_);go_simp;refine (Hx.o wr.drew (Gf.o.ext (Ext.refl _).drew)).mono ?_;rintro e5 W5 ⟨rfl,Ix,dY⟩;refine hK.o _ _ (HKS.o _ (fun q v hq hb=>cK (ak (Ext.refl wr).drew hq) dY hb)) (trivial) (fun ay ah=> ?_);clear hK Kc;try simp only [sS]
     refine aD (by kernel_rfl) ?_ _;clear ay ah
     have Q9:Hid (FE W5 K (nd e2 (q&&decide (y0≤y1)) 11)):=by
      show FE _ _ _;rw [←nL _ _ _ _ (by decide)];exact Ix
     have Dn:Hid (aQ W5 B 67 x.cells):=(sq.o.ext (Ext.refl _).drew).but dY gQ;have vp:Hid (ar K V W5):=ez.o.trans (((Ext.refl wr).drew.but K).trans dY);clear Ix dY;go_wp2_with fail
     exact ⟨⟨p+1+1,by omega,Or.inl (by omega),by rw [Q8.o];exact Q9.o,vp.o,Dn.o,by go_num⟩,by simp only [intOf];omega⟩
    ·rw [IH x.aU i h1 (by omega) hi,Qd.o]at hF
     have vh:=ae hF;have eE:=ae hX;have mi:=ae hA
     clear hF hX hA;go_wp2_with fail
     clear u4;by_cases h0:e3=0
     ·obtain ⟨h8,hall⟩:=HZ.o h0
      have Dj:=ae (zm x.aU hall);have t1:(e3==0)=true:=by simpa using h0
      have t2:(e3 !=0)=false:=by simpa using h0
      have H0:=ae h0;clear h0 hall hi;go_loopw [10,11] (fun vs ii wl=> ∃j:Nat,j≤x.aU.length∧FE wl K e3∧ar K V wl∧aQ wl B 67 x.cells∧vs= .int .i64 (cE (x.aU.take j))∧ii= .int .i64 j) (fun _ ii _=>x.aU.length-(intOf ii).toNat)
      case atStart=>exact ⟨0,Nat.zero_le _,vh.o,eE.o,mi.o,rfl,rfl⟩
      case round=>
       obtain ⟨j,hj,hF,hX,hA,rfl,rfl⟩:=hrel;clear vh eE mi;have u4:wr.cell? ⟨B,4,none⟩=some (.slice x.sa x.aU.length x.sc):=(hA.cell 4).trans rfl;have k3:=hF.cell;by_cases hlt:j<x.aU.length
       ·have hE:=hX.ext HV.o df.o
        obtain ⟨b,o,ha,q0,-⟩:=(HS.o.ext hE).aU j hlt;have HT:=ae (ot x.aU j hlt);have hb1:=Dj.o j (by omega);have hb2:=Dj.o (j+1) (by omega)
        rw [HT.o]at hb2;generalize cE (x.aU.take j)=σ at*;generalize x.aU[j].width=y at*;have uF:=ae ha;have hws:IntKind.i64.wrap (σ+y)=σ+y:=by rw [IntKind.wrap_i64];omega
        have jS:(0:Int)≤(j:Int):=by omega
        have jI:(j:Int)<(x.aU.length:Int):=by omega
        have HF:=ae hF;have HX:=ae hX;have HA:=ae hA;have Dm:=ae hb1;have sI:=ae hb2
        clear hF hX hA hE ha hb1 hb2;rw [uF.o]at u4;go_wp2_with fail
        exact ⟨⟨j+1,by omega,HF.o,HX.o,HA.o,by rw [HT.o],by go_num⟩,by simp only [intOf];omega⟩
       ·obtain rfl:j=x.aU.length:=by omega
        have u2:wr.cell? ⟨B,2,none⟩=some (i64 x.min):=(hA.cell 2).trans rfl;have u3:wr.cell? ⟨B,3,none⟩=some (i64 x.max):=(hA.cell 3).trans rfl;have Hx:=ae (cP wr K e3 (cE x.aU==M) 3 ix 4 4 hF);have HX:=ae hX;have HQ:Hid ((cE x.aU==M)=decide (cE x.aU=M)):=by show _=_;rw [Bool.eq_iff_iff];simp
        rw [List.take_length];clear hF hX hA;go_wp2_with fail
        refine Hx.o.mono ?_;rintro e6 W6 ⟨rfl,Lf,jB⟩;go_wp2_with fail
        exact bodyPost_end (v:= .tuple #[]) (by simp [results,results101,go_sem]) rfl ⟨rfl,by rw [←HQ.o];exact Lf,HX.o.trans jB⟩
     ·have t1:(e3==0)=false:=by simpa using h0
      have t2:(e3 !=0)=true:=by simpa using h0
      have nW:=ae (eM h0 (decide (cE x.aU=M)) 4);clear h0 hi;go_loopw [10,11] (fun vs ii wl=>FE wl K e3∧ar K V wl∧aQ wl B 67 x.cells∧vs= .int .i64 0∧ii= .int .i64 0) (fun _ _ _=>0)
      case atStart=>exact ⟨vh.o,eE.o,mi.o,rfl,rfl⟩
      case round=>
       obtain ⟨hF,hX,hA,rfl,rfl⟩:=hrel;clear vh eE mi;have u4:wr.cell? ⟨B,4,none⟩=some (.slice x.sa x.aU.length x.sc):=(hA.cell 4).trans rfl;have u2:wr.cell? ⟨B,2,none⟩=some (i64 x.min):=(hA.cell 2).trans rfl;have u3:wr.cell? ⟨B,3,none⟩=some (i64 x.max):=(hA.cell 3).trans rfl;have k3:=hF.cell;have Hx:=ae (cP wr K e3 true 3 ix 4 4 hF);rw [bY]at Hx;have HX:=ae hX;clear hF hX hA;by_cases hl:0<x.aU.length
       ·have tl:decide ((0:Int)<(x.aU.length:Int))=true:=by simpa using hl
        go_wp2_with fail
        refine Hx.o.mono ?_;rintro e6 W6 ⟨rfl,Lf,jB⟩;go_wp2_with fail
        exact bodyPost_end (v:= .tuple #[]) (by simp [results,results101,go_sem]) rfl ⟨rfl,by rw [nW.o];exact Lf,HX.o.trans jB⟩
       ·have tl:decide ((0:Int)<(x.aU.length:Int))=false:=by simpa using hl
        go_wp2_with fail
        refine Hx.o.mono ?_;rintro e6 W6 ⟨rfl,Lf,jB⟩;go_wp2_with fail
        exact bodyPost_end (v:= .tuple #[]) (by simp [results,results101,go_sem]) rfl ⟨rfl,by rw [nW.o];exact Lf,HX.o.trans jB⟩
end Go.Proofs.YtkpngkdgphojlaaGreat
