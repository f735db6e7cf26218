/- Texts of the proof. -/
import Derived.Shelf.SlSortCmp.NoneTotal
import Derived.Test.YtkpngkdgphojlaaGreatCc10
set_option linter.all false
namespace Go.Proofs.YtkpngkdgphojlaaGreat
open Go.RowKit
set_option maxHeartbeats 1000000 in
set_option maxRecDepth 100000 in
theorem DL (w0 V:World) (c:aq) (h:Int) (hV:Ext w0 V) (hc:aT w0 c) (hn:c.lines.length≤1000000):
 Calls Tryz.prog 148 #[.agg (C8 c),i64 h] V fun e w'=> ∃a cap,e= .returned (.slice a (cJ c h c.lines.length).length cap)∧aA w' a cap (aC (cJ c h c.lines.length))∧Ext V w'∧Fr V.heap.size a:=by
 try unfold C8
 have hr:=hc.lines;have hle:=hr.le;have di:=hr.cap
 rw [List.length_map]at hle;have HR:=ae hr;have HV:=ae hV;have HN:=ae hn;have KX:=ae hc.line
 clear hc hr hV hn;go_enter Tryz.func148,Tryz.ntmps148
 go_upto_region 1 with fail
 obtain ⟨W,hW,x0,Z0,A0⟩:=aB V 32 c.cells;rw [show V.alloc (.cells (C8 c) 32)=W from hW.symm];clear hW;have HX:=ae x0;obtain ⟨B,hB⟩: ∃B,B=V.heap.size:=⟨_,rfl⟩;rw [←hB]at A0⊢;obtain ⟨-,-,-,k3,-⟩:=aq.at A0;have kr:=ae hB;clear A0 x0 Z0 hB;go_wp2_with fail
 clear k3;go_loopw [5,11] (fun v ii wr=> ∃i:Nat,i≤c.lines.length∧aH wr W.heap.size 3 1 v (eV (cJ c h i))∧Ext W wr∧ii= .int .i64 i) (fun _ ii _=>c.lines.length-(intOf ii).toNat)
 case atStart=>exact ⟨0,Nat.zero_le _,aH.nil _ _ _ _,Ext.refl _,rfl⟩
 case round=>
  obtain ⟨i,hi,hown,hE,rfl⟩:=hrel;have HO:=ae hown;clear hown;by_cases hlt:i<c.lines.length
  ·obtain ⟨b,o,ha,c0,c1,c2,c3,c4,c5,c6,c7,c8,c9,c10,c11⟩:=((HR.out.ext HV.out).ext (HX.out.trans hE)).lines i hlt
   have N9:=(KX.out c.lines[i] (List.getElem_mem hlt)).2.1;have HST:=ae (qT c h i);rw [vK hlt]at HST;obtain ⟨x,eU⟩: ∃x,x=c.lines[i]:=⟨_,rfl⟩;rw [←eU]at c0 c1 c2 c3 c4 c5 c6 c7 c8 c9 c10 c11 N9 HST;have HLEN:=ae (gI c h i);generalize cJ c h i=l at*;have fM:(0:Int)≤(i:Int):=by omega
   have fH:(i:Int)<(c.lines.length:Int):=by omega
   have HE:=ae hE;have Gp:=ae ((N9.ext HV.out).ext (HX.out.trans hE));clear hE N9 eU;rw [ha];go_upto_region 5 with fail
   obtain ⟨W1,hW1,x1,Z1,A1⟩:=aB wr 78 x.cells;rw [show wr.alloc (.cells #[.string x.name,i64 x.cd,i64 x.ie,i64 x.rn,i64 x.rd,i64 x.iH,i64 x.kq,i64 x.iO,i64 x.lg,i64 x.cf,i64 x.gw,.slice x.aa x.away.length x.ac] 78)=W1 from hW1.symm];clear hW1 c0 c1 c2 c3 c4 c5 c6 c7 c8 c9 c10 c11;obtain ⟨E,j5⟩: ∃E,E=wr.heap.size:=⟨_,rfl⟩;rw [←j5]at A1⊢;obtain ⟨-,-,-,-,-,-,-,-,-,-,-,c11⟩:=aS.at A1;have gO:=ae (j1 W1 _ _ _ h (Gp.out.ext x1));have p7:=ae (HE.out.trans x1);have se:=p7.out.size;have eK:=ae x1;clear A1 Z1 x1 j5 Gp HE;rcases Bool.eq_false_or_eq_true (hasB x.away h)with hq|hq
   ·rw [hq]at gO HST
    clear hq;go_wp2_with fail
    refine gO.out.mono ?_;rintro e w1 ⟨rfl,eE⟩;rw [eE];clear eE
    have pn:=ae (HO.out.ext eK.out);go_wp2_with fail
    exact ⟨⟨i+1,by omega,by rw [HST.out];simpa using pn.out,p7.out,by go_num⟩,by simp only [intOf];omega⟩
   ·rw [hq]at gO HST
    clear hq
    have HOW:Hid (wr.ownsRow W.heap.size 3 1 u5 l.length (eV l).flatten):=by
     have h5:=HO.out.own;rw [dD]at h5;exact h5
    have Uh:=ae (bG HOW.out eK.out);go_wp2_with fail
    refine gO.out.mono ?_;rintro e w1 ⟨rfl,eE⟩;rw [eE];clear eE
    go_wp2_with (at_builtin;refine aV _ rfl (.tmp 21) (.tmp 23) 22 rfl W.heap.size 3 (.int .i64 0) 1 8 Tryz.underlying22 Tryz.info_int rfl (by decide) u5 l.length (eV l).flatten rfl ?c1 (some ⟨W1.heap.size,0,none⟩) 1 1 [i64 (i:Int)] rfl rfl ?c2 ?c3 ?c4 ?c5 (by decide) ?c6 ?_;rotate_right;intro v1 w5 ho he hb hz hv)
    case c1=>exact bG Uh.out ((Ext.refl _).alloc _)
    case c2=>exact fun _=>⟨_,rfl,cC W1 3 [i64 (i:Int)]⟩
    case c3=>intro u hu;rw [List.mem_singleton]at hu;subst hu;rfl
    case c4=>intro e;cases e
    case c5=>have:=HN.out;have:=HLEN.out;omega
    case c6=>have:=se;simp;omega
    have x5:Ext W w5:=he.out W (p7.out.alloc _) (Nat.le_refl _);have iC:=(HO.out.ext eK.out).snoc (w':=w5) (v':=v1) (r:= [i64 (i:Int)]) rfl (by rw [dD];exact ho.out);rw [←lq]at iC;exact ⟨⟨i+1,by omega,by rw [HST.out];simpa using iC,x5,by go_num⟩,by simp only [intOf];omega⟩
  ·obtain rfl:i=c.lines.length:=by omega
   obtain ⟨a,cap,rfl,hS,jU⟩:=HO.out.recs (by decide);rw [dD];rw [lr]at hS;have HI:=ae (aA.kn hS (mF (iJ c h _) (by omega)));have sj:=ae jU;clear hS jU HO;go_wp2_with fail
   go_ret;exact ⟨a,cap,rfl,HI.out,HX.out.trans hE,sj.out.mono HX.out.size⟩
def eN (c:aq) (h:Int):Bool:=decide (0≤h)&&decide (h<c.hours)
def lX (n:Int) (l:List Int) (j:Nat):Bool:=decide (0≤eF l j)&&decide (eF l j<n)&&(j==0||decide (eF l (j-1)<eF l j))
def lY (n:Int) (l:List Int):Bool:=(List.range l.length).all (lX n l)
def gR (n:Int) (l:List Int):Bool:=lY n l&&decide (0<l.length)
theorem qu {n:Int} {l:List Int} (h: ∀j,j<l.length→lX n l j=true):lY n l=true:=by
 unfold lY;rw [List.all_eq_true];intro j hj;exact h j (List.mem_range.1 hj)
theorem tJ {n:Int} {l:List Int} {j:Nat} (hj:j<l.length) (h:lX n l j=false):lY n l=false:=by
 cases q:lY n l with
 |false=>rfl
 |true=>
  unfold lY at q;rw [List.all_eq_true]at q;have:=q j (List.mem_range.2 hj);rw [h]at this;exact this.symm
theorem Gq {n:Nat} {l:List Int} (h:lY n l=true): ∃us:List Nat,l=aC us∧dQ n us:=by
 unfold lY at h;rw [List.all_eq_true]at h
 have hk: ∀j (hj:j<l.length),0≤l[j]∧l[j]<n∧ ∀k (hk:k<j),l[k]<l[j]:=by
  intro j;induction j with
  |zero=>
   intro hj;have:=h 0 (List.mem_range.2 hj);unfold lX at this;rw [dM hj]at this;simp at this;exact ⟨by omega,by omega,fun k hk=>absurd hk (Nat.not_lt_zero _)⟩
  |succ j ih=>
   intro hj;have h1:=h (j+1) (List.mem_range.2 hj);unfold lX at h1;rw [dM hj,Nat.add_sub_cancel,dM (show j<l.length by omega)]at h1;simp at h1;have h2:=ih (by omega);refine ⟨by omega,by omega,fun k hk=> ?_⟩;by_cases q:k=j
   ·subst q;omega
   ·have:=h2.2.2 k (by omega);omega
 refine ⟨l.map Int.toNat,?_,?_,?_⟩
 ·unfold aC
  rw [List.map_map];apply List.ext_getElem
  ·simp
  ·intro i h1 h2
   have:=(hk i h1).1;simp;omega
 ·rw [List.pairwise_iff_getElem]
  intro i j hi hj SH;have hj':j<l.length:=by simpa using hj
  have h1:=hk j hj';have h2:=h1.2.2 i SH;have h3:=(hk i (by omega)).1;simp;omega
 ·intro u hu
  obtain ⟨z,hz,rfl⟩:=List.mem_map.1 hu;obtain ⟨i,hi,rfl⟩:=List.getElem_of_mem hz;have:=hk i hi;omega
set_option maxRecDepth 100000 in
theorem vO (V:World) (c:aq) (hour:Int):
 Calls Tryz.prog 38 #[.agg (C8 c),i64 hour] V fun e w'=>e= .returned (.bool (eN c hour))∧Ext V w':=by
 try unfold C8
 have hb:eN c hour=(decide (0≤hour)&&decide (hour<c.hours)):=rfl;obtain ⟨hb',Od⟩: ∃b,b=eN c hour:=⟨_,rfl⟩;rw [←Od]at hb⊢;have HB:=ae hb;clear hb Od;go_enter Tryz.func38,Tryz.ntmps38
 go_upto_region 1 with fail
 obtain ⟨W,hW,x0,Z0,A0⟩:=aB V 32 c.cells;rw [show V.alloc (.cells (C8 c) 32)=W from hW.symm];obtain ⟨B,hB⟩: ∃B,B=V.heap.size:=⟨_,rfl⟩;rw [←hB]at A0⊢;obtain ⟨k0,-⟩:=aq.at A0;have HX:=ae x0;clear hW x0 Z0 A0 hB;rcases Bool.eq_false_or_eq_true (decide (0≤hour))with t|t
 ·have HQ:Hid (decide (hour<c.hours)=hb'):=by show _=_;rw [HB.out,t,Bool.true_and]
  go_wp2_with fail
  go_ret;exact ⟨by rw [←HQ.out];rfl,HX.out⟩
 ·have HQ:Hid (false=hb'):=by show _=_;rw [HB.out,t,Bool.false_and]
  go_wp2_with fail
  go_ret;exact ⟨by rw [←HQ.out];rfl,HX.out⟩
set_option maxHeartbeats 1000000 in
set_option maxRecDepth 100000 in
theorem yU (V:World) (c:aq) (a:Option Addr) (cap:Nat) (l:List Int) (h:aA V a cap l):
 Calls Tryz.prog 39 #[.agg (C8 c),.slice a l.length cap] V fun e w'=>e= .returned (.bool (gR c.aj.length l))∧Ext V w':=by
 try unfold C8
 have hle:=h.le;have di:=h.cap
 have HL:=ae h;have Pw:Hid (∀j,j<l.length→lX c.aj.length l j=false→gR c.aj.length l=false):=fun j hj h=>by unfold gR;rw [tJ hj h];rfl
 have Px:Hid ((∀j,j<l.length→lX c.aj.length l j=true)→decide (0<l.length)=gR c.aj.length l):=fun h=>by
  unfold gR;rw [qu h,Bool.true_and]
 obtain ⟨sb,Jp⟩: ∃sb,sb=gR c.aj.length l:=⟨_,rfl⟩;rw [←Jp]at Pw Px⊢;clear h Jp;go_enter Tryz.func39,Tryz.ntmps39
 go_upto_region 1 with fail
 obtain ⟨W,hW,x0,Z0,A0⟩:=aB V 32 c.cells;rw [show V.alloc (.cells (C8 c) 32)=W from hW.symm];obtain ⟨B,hB⟩: ∃B,B=V.heap.size:=⟨_,rfl⟩;rw [←hB]at A0⊢;obtain ⟨-,-,-,-,k4,-⟩:=aq.at A0;have HX:=ae x0;have FV:=ae k4
 clear hW x0 Z0 A0 hB k4;go_wp2_with fail
 go_loopw [9] (fun ii wr=> ∃i:Nat,i≤l.length∧wr=W∧(∀j,j<i→lX c.aj.length l j=true)∧ii= .int .i64 i) (fun ii _=>l.length-(intOf ii).toNat)
 case atStart=>exact ⟨0,Nat.zero_le _,rfl,fun j hj=>absurd hj (Nat.not_lt_zero _),rfl⟩
 case round=>
  obtain ⟨i,hi,hw,hA,rfl⟩:=hrel;subst hw;by_cases hlt:i<l.length
  ·obtain ⟨b,o,rfl,c0⟩:=(HL.out.ext HX.out).cell i hlt
   rw [←dM hlt]at c0
   have HST:Hid (∀ok,lX c.aj.length l i=ok→ok=true→ ∀j,j<i+1→lX c.aj.length l j=true):=fun ok h1 h2 j hj=>by
    by_cases q:j=i
    ·subst q;rw [h1,h2]
    ·exact hA j (by omega)
   have ky:Hid (lX c.aj.length l i=(decide (0≤eF l i)&&decide (eF l i<c.aj.length)&&(i==0||decide (eF l (i-1)<eF l i)))):=rfl;have Ag:=ae (Pw.out i hlt);have fM:(0:Int)≤(i:Int):=by omega
   have fH:(i:Int)<(l.length:Int):=by omega
   have k4:=FV.out;cases i with
   |zero=>
    obtain ⟨x,hx⟩: ∃x,x=eF l 0:=⟨_,rfl⟩;rw [←hx]at c0 ky;have c0:wr.cell? ⟨b,o,none⟩=some (i64 x):=by simpa using c0
    clear hA hx;by_cases h1:x<0
    ·have HQ:Hid (sb=false):=Ag.out (by rw [ky.out];simp;intro h;omega)
     go_wp2_with fail
     go_ret;exact ⟨by rw [HQ.out];rfl,HX.out⟩
    ·by_cases h2:(c.aj.length:Int)≤x
     ·have HQ:Hid (sb=false):=Ag.out (by rw [ky.out];simp;intro h;omega)
      go_wp2_with fail
      go_ret;exact ⟨by rw [HQ.out];rfl,HX.out⟩
     ·have HQ:=ae (HST.out true (by rw [ky.out];simp;omega) rfl)
      go_wp2_with fail
      exact ⟨⟨0+1,by omega,by first|trivial|rfl,HQ.out,by go_num⟩,by simp only [intOf];omega⟩
   |succ p=>
    obtain ⟨b',o',ha',d0⟩:=(HL.out.ext HX.out).cell p (by omega);cases ha'
    rw [←dM (show p<l.length by omega)]at d0;obtain ⟨x,hx⟩: ∃x,x=eF l (p+1):=⟨_,rfl⟩;obtain ⟨y,hy⟩: ∃y,y=eF l p:=⟨_,rfl⟩;rw [Nat.add_sub_cancel,←hx,←hy]at ky;rw [←hx]at c0;rw [←hy]at d0;have eE:IntKind.i64.wrap (((p+1:Nat):Int)-1)=(p:Int):=by rw [IntKind.wrap_i64];omega
    have hw2:IntKind.i64.wrap (p:Int)=(p:Int):=by rw [IntKind.wrap_i64];omega
    have Lt:(0:Int)≤(p:Int):=by omega
    have Lu:(p:Int)<(l.length:Int):=by omega
    have I5:(0:Int)≤(p:Int)+1:=by omega
    have Lv:(p:Int)+1<(l.length:Int):=by omega
    have O0:(0:Int)<((p+1:Nat):Int):=by omega
    have bk3:(0:Int)<(p:Int)+1:=by omega
    clear hA hx hy;by_cases h1:x<0
    ·have HQ:Hid (sb=false):=Ag.out (by rw [ky.out];simp;intro h;omega)
     go_wp2_with fail
     go_ret;exact ⟨by rw [HQ.out];rfl,HX.out⟩
    ·by_cases h2:(c.aj.length:Int)≤x
     ·have HQ:Hid (sb=false):=Ag.out (by rw [ky.out];simp;intro h;omega)
      go_wp2_with fail
      go_ret;exact ⟨by rw [HQ.out];rfl,HX.out⟩
     ·by_cases h3:x≤y
      ·have HQ:Hid (sb=false):=Ag.out (by rw [ky.out];simp;intro h;omega)
       go_wp2_with fail
       go_ret;exact ⟨by rw [HQ.out];rfl,HX.out⟩
      ·have HQ:=ae (HST.out true (by rw [ky.out];simp;omega) rfl)
       go_wp2_with fail
       exact ⟨⟨p+1+1,by omega,by first|trivial|rfl,HQ.out,by go_num⟩,by simp only [intOf];omega⟩
  ·obtain rfl:i=l.length:=by omega
   have HQ:=ae (Px.out hA);clear hA;go_wp2_with fail
   go_ret;exact ⟨by rw [←HQ.out];rfl,HX.out⟩
set_option maxHeartbeats 1000000 in
set_option maxRecDepth 100000 in
theorem Bg (V:World) (a:Option Addr) (cap:Nat) (l:List Int) (n:Int) (h:aA V a cap l):
 Calls Tryz.prog 90 #[.slice a l.length cap,i64 n] V fun e w'=>e= .returned (.bool (lY n l))∧Ext V w':=by
 have hle:=h.le;have di:=h.cap
 have HL:=ae h;have Pw:Hid (∀j,j<l.length→lX n l j=false→lY n l=false):=fun j hj h=>tJ hj h;have Px:Hid ((∀j,j<l.length→lX n l j=true)→true=lY n l):=fun h=>(qu h).symm;obtain ⟨sb,Jp⟩: ∃sb,sb=lY n l:=⟨_,rfl⟩;rw [←Jp]at Pw Px⊢;clear h Jp;go_enter Tryz.func90,Tryz.ntmps90
 go_wp2_with fail
 go_loopw [5] (fun ii wr=> ∃i:Nat,i≤l.length∧Ext V wr∧(∀j,j<i→lX n l j=true)∧ii= .int .i64 i) (fun ii _=>l.length-(intOf ii).toNat)
 case atStart=>exact ⟨0,Nat.zero_le _,Ext.refl _,fun j hj=>absurd hj (Nat.not_lt_zero _),rfl⟩
 case round=>
  obtain ⟨i,hi,hX,hA,rfl⟩:=hrel;by_cases hlt:i<l.length
  ·obtain ⟨b,o,rfl,c0⟩:=(HL.out.ext hX).cell i hlt
   rw [←dM hlt]at c0
   have HST:Hid (∀ok,lX n l i=ok→ok=true→ ∀j,j<i+1→lX n l j=true):=fun ok h1 h2 j hj=>by
    by_cases q:j=i
    ·subst q;rw [h1,h2]
    ·exact hA j (by omega)
   have ky:Hid (lX n l i=(decide (0≤eF l i)&&decide (eF l i<n)&&(i==0||decide (eF l (i-1)<eF l i)))):=rfl;have Ag:=ae (Pw.out i hlt);have HX:=ae hX.drew;have fM:(0:Int)≤(i:Int):=by omega
   have fH:(i:Int)<(l.length:Int):=by omega
   cases i with
   |zero=>
    obtain ⟨x,hx⟩: ∃x,x=eF l 0:=⟨_,rfl⟩;rw [←hx]at c0 ky;have c0:wr.cell? ⟨b,o,none⟩=some (i64 x):=by simpa using c0
    clear hA hx hX;by_cases h1:x<0
    ·have HQ:Hid (sb=false):=Ag.out (by rw [ky.out];simp;intro h;omega)
     go_wp2_with fail
     refine ay (fun w'=>w'.cell? ⟨b,o,none⟩=some (i64 x)) (fun w'=>True) (fun i=>false) (by kernel_rfl) (c0) (trivial) (fun ar ah=> ?_);refine av 0 (.slice (some ⟨b,o,none⟩) l.length cap) rfl ar ah ?_;simp only [sS];refine av 1 (.int .i64 (0:Int)) rfl ar ah ?_;simp only [sS];refine av 2 (.pointer (some ⟨b,o+0,none⟩)) rfl ar ah ?_;simp only [sS];refine av 3 (i64 x) rfl ar ah ?_;simp only [sS];refine av 4 (.bool true) rfl ar ah ?_;simp only [sS];refine av 5 (.bool true) rfl ar ah ?_;simp only [sS];refine cA 6 rfl ar ah ?_;simp only [sS];refine cA 7 rfl ar ah ?_;simp only [sS];refine cA 8 rfl ar ah ?_;simp only [sS];refine cA 9 rfl ar ah ?_;simp only [sS];refine cA 10 rfl ar ah ?_;simp only [sS];refine cA 11 rfl ar ah ?_;simp only [sS];refine av 12 (.bool true) rfl ar ah ?_;simp only [sS];refine av 13 (.bool true) rfl ar ah ?_;simp only [sS];refine cA 14 rfl ar ah ?_;simp only [sS];refine cA 15 rfl ar ah ?_;simp only [sS];refine cA 16 rfl ar ah ?_;simp only [sS];refine cA 17 rfl ar ah ?_;simp only [sS];refine cA 18 rfl ar ah ?_;simp only [sS];refine cA 19 rfl ar ah ?_;simp only [sS];refine cA 20 rfl ar ah ?_;simp only [sS];refine cA 21 rfl ar ah ?_;simp only [sS];refine cA 22 rfl ar ah ?_;simp only [sS];refine cA 23 rfl ar ah ?_;simp only [sS];refine cA 24 rfl ar ah ?_;simp only [sS];refine cA 25 rfl ar ah ?_;simp only [sS];refine cA 26 rfl ar ah ?_;simp only [sS];refine cA 27 rfl ar ah ?_;simp only [sS];refine av 28 (.bool true) rfl ar ah ?_;simp only [sS];refine ax (by kernel_rfl) ?_ _;clear ar ah;go_wp2_with fail
     go_ret;exact ⟨by rw [HQ.out];rfl,HX.out⟩
    ·by_cases h2:n≤x
     ·have HQ:Hid (sb=false):=Ag.out (by rw [ky.out];simp;intro h;omega)
      go_wp2_with fail
      refine ay (fun w'=>w'.cell? ⟨b,o,none⟩=some (i64 x)) (fun w'=>True) (fun i=>false) (by kernel_rfl) (c0) (trivial) (fun ar ah=> ?_);refine av 0 (.slice (some ⟨b,o,none⟩) l.length cap) rfl ar ah ?_;simp only [sS];refine av 1 (.int .i64 (0:Int)) rfl ar ah ?_;simp only [sS];refine av 2 (.pointer (some ⟨b,o+0,none⟩)) rfl ar ah ?_;simp only [sS];refine av 3 (i64 x) rfl ar ah ?_;simp only [sS];refine av 4 (.bool false) rfl ar ah ?_;simp only [sS];refine av 5 (.bool false) rfl ar ah ?_;simp only [sS];refine av 6 (.slice (some ⟨b,o,none⟩) l.length cap) rfl ar ah ?_;simp only [sS];refine av 7 (.int .i64 (0:Int)) rfl ar ah ?_;simp only [sS];refine av 8 (.pointer (some ⟨b,o+0,none⟩)) rfl ar ah ?_;simp only [sS];refine av 9 (i64 x) rfl ar ah ?_;simp only [sS];refine av 10 (i64 n) rfl ar ah ?_;simp only [sS];refine av 11 (.bool true) rfl ar ah ?_;simp only [sS];refine av 12 (.bool true) rfl ar ah ?_;simp only [sS];refine av 13 (.bool true) rfl ar ah ?_;simp only [sS];refine cA 14 rfl ar ah ?_;simp only [sS];refine cA 15 rfl ar ah ?_;simp only [sS];refine cA 16 rfl ar ah ?_;simp only [sS];refine cA 17 rfl ar ah ?_;simp only [sS];refine cA 18 rfl ar ah ?_;simp only [sS];refine cA 19 rfl ar ah ?_;simp only [sS];refine cA 20 rfl ar ah ?_;simp only [sS];refine cA 21 rfl ar ah ?_;simp only [sS];refine cA 22 rfl ar ah ?_;simp only [sS];refine cA 23 rfl ar ah ?_;simp only [sS];refine cA 24 rfl ar ah ?_;simp only [sS];refine cA 25 rfl ar ah ?_;simp only [sS];refine cA 26 rfl ar ah ?_;simp only [sS];refine cA 27 rfl ar ah ?_;simp only [sS];refine av 28 (.bool true) rfl ar ah ?_;simp only [sS];refine ax (by kernel_rfl) ?_ _;clear ar ah;go_wp2_with fail
      go_ret;exact ⟨by rw [HQ.out];rfl,HX.out⟩
     ·have HQ:=ae (HST.out true (by rw [ky.out];simp;omega) rfl)
      go_wp2_with fail
      refine ay (fun w'=>w'.cell? ⟨b,o,none⟩=some (i64 x)) (fun w'=>True) (fun i=>false) (by kernel_rfl) (c0) (trivial) (fun ar ah=> ?_);refine av 0 (.slice (some ⟨b,o,none⟩) l.length cap) rfl ar ah ?_;simp only [sS];refine av 1 (.int .i64 (0:Int)) rfl ar ah ?_;simp only [sS];refine av 2 (.pointer (some ⟨b,o+0,none⟩)) rfl ar ah ?_;simp only [sS];refine av 3 (i64 x) rfl ar ah ?_;simp only [sS];refine av 4 (.bool false) rfl ar ah ?_;simp only [sS];refine av 5 (.bool false) rfl ar ah ?_;simp only [sS];refine av 6 (.slice (some ⟨b,o,none⟩) l.length cap) rfl ar ah ?_;simp only [sS];refine av 7 (.int .i64 (0:Int)) rfl ar ah ?_;simp only [sS];refine av 8 (.pointer (some ⟨b,o+0,none⟩)) rfl ar ah ?_;simp only [sS];refine av 9 (i64 x) rfl ar ah ?_;simp only [sS];refine av 10 (i64 n) rfl ar ah ?_;simp only [sS];refine av 11 (.bool false) rfl ar ah ?_;simp only [sS];refine av 12 (.bool false) rfl ar ah ?_;simp only [sS];refine av 13 (.bool false) rfl ar ah ?_;simp only [sS];refine av 14 (.int .i64 (0:Int)) rfl ar ah ?_;simp only [sS];refine av 15 (.bool false) rfl ar ah ?_;simp only [sS];refine av 16 (.bool false) rfl ar ah ?_;simp only [sS];refine cA 17 rfl ar ah ?_;simp only [sS];refine cA 18 rfl ar ah ?_;simp only [sS];refine cA 19 rfl ar ah ?_;simp only [sS];refine cA 20 rfl ar ah ?_;simp only [sS];refine cA 21 rfl ar ah ?_;simp only [sS];refine cA 22 rfl ar ah ?_;simp only [sS];refine cA 23 rfl ar ah ?_;simp only [sS];refine cA 24 rfl ar ah ?_;simp only [sS];refine cA 25 rfl ar ah ?_;simp only [sS];refine cA 26 rfl ar ah ?_;simp only [sS];refine av 27 (.bool false) rfl ar ah ?_;simp only [sS];refine av 28 (.bool false) rfl ar ah ?_;simp only [sS];refine ax (by kernel_rfl) ?_ _;clear ar ah;go_wp2_with fail
      exact ⟨⟨0+1,by omega,HX.out,HQ.out,by go_num⟩,by simp only [intOf];omega⟩
   |succ p=>
    obtain ⟨b',o',ha',d0⟩:=(HL.out.ext hX).cell p (by omega);cases ha'
    rw [←dM (show p<l.length by omega)]at d0;obtain ⟨x,hx⟩: ∃x,x=eF l (p+1):=⟨_,rfl⟩;obtain ⟨y,hy⟩: ∃y,y=eF l p:=⟨_,rfl⟩;rw [Nat.add_sub_cancel,←hx,←hy]at ky;rw [←hx]at c0;rw [←hy]at d0;have eE:IntKind.i64.wrap (((p+1:Nat):Int)-1)=(p:Int):=by rw [IntKind.wrap_i64];omega
    have hw2:IntKind.i64.wrap (p:Int)=(p:Int):=by rw [IntKind.wrap_i64];omega
    have Lt:(0:Int)≤(p:Int):=by omega
    have Lu:(p:Int)<(l.length:Int):=by omega
    have I5:(0:Int)≤(p:Int)+1:=by omega
    have Lv:(p:Int)+1<(l.length:Int):=by omega
    have O0:(0:Int)<((p+1:Nat):Int):=by omega
    have bk3:(0:Int)<(p:Int)+1:=by omega
    have bk4: ¬((p:Int)+1<0):=by omega
    clear hA hx hy hX;by_cases h1:x<0
    ·have HQ:Hid (sb=false):=Ag.out (by rw [ky.out];simp;intro h;omega)
     go_wp2_with fail
     refine ay (fun w'=>w'.cell? ⟨b,o+(p+1),none⟩=some (i64 x)∧w'.cell? ⟨b,o+p,none⟩=some (i64 y)) (fun w'=>True) (fun i=>false) (by kernel_rfl) (⟨c0,d0⟩) (trivial) (fun ar ah=> ?_);refine av 0 (.slice (some ⟨b,o,none⟩) l.length cap) rfl ar ah ?_;simp only [sS];refine av 1 (.int .i64 ((p+1:Nat):Int)) rfl ar ah ?_;simp only [sS];refine av 2 (.pointer (some ⟨b,o+(p+1),none⟩)) rfl ar ah ?_;simp only [sS];refine av 3 (i64 x) rfl ar ah ?_;simp only [sS];refine av 4 (.bool true) rfl ar ah ?_;simp only [sS];refine av 5 (.bool true) rfl ar ah ?_;simp only [sS];refine cA 6 rfl ar ah ?_;simp only [sS];refine cA 7 rfl ar ah ?_;simp only [sS];refine cA 8 rfl ar ah ?_;simp only [sS];refine cA 9 rfl ar ah ?_;simp only [sS];refine cA 10 rfl ar ah ?_;simp only [sS];refine cA 11 rfl ar ah ?_;simp only [sS];refine av 12 (.bool true) rfl ar ah ?_;simp only [sS];refine av 13 (.bool true) rfl ar ah ?_;simp only [sS];refine cA 14 rfl ar ah ?_;simp only [sS];refine cA 15 rfl ar ah ?_;simp only [sS];refine cA 16 rfl ar ah ?_;simp only [sS];refine cA 17 rfl ar ah ?_;simp only [sS];refine cA 18 rfl ar ah ?_;simp only [sS];refine cA 19 rfl ar ah ?_;simp only [sS];refine cA 20 rfl ar ah ?_;simp only [sS];refine cA 21 rfl ar ah ?_;simp only [sS];refine cA 22 rfl ar ah ?_;simp only [sS];refine cA 23 rfl ar ah ?_;simp only [sS];refine cA 24 rfl ar ah ?_;simp only [sS];refine cA 25 rfl ar ah ?_;simp only [sS];refine cA 26 rfl ar ah ?_;simp only [sS];refine cA 27 rfl ar ah ?_;simp only [sS];refine av 28 (.bool true) rfl ar ah ?_;simp only [sS];refine ax (by kernel_rfl) ?_ _;clear ar ah;go_wp2_with fail
     go_ret;exact ⟨by rw [HQ.out];rfl,HX.out⟩
    ·by_cases h2:n≤x
     ·have HQ:Hid (sb=false):=Ag.out (by rw [ky.out];simp;intro h;omega)
      go_wp2_with fail
      refine ay (fun w'=>w'.cell? ⟨b,o+(p+1),none⟩=some (i64 x)∧w'.cell? ⟨b,o+p,none⟩=some (i64 y)) (fun w'=>True) (fun i=>false) (by kernel_rfl) (⟨c0,d0⟩) (trivial) (fun ar ah=> ?_);refine av 0 (.slice (some ⟨b,o,none⟩) l.length cap) rfl ar ah ?_;simp only [sS];refine av 1 (.int .i64 ((p+1:Nat):Int)) rfl ar ah ?_;simp only [sS];refine av 2 (.pointer (some ⟨b,o+(p+1),none⟩)) rfl ar ah ?_;simp only [sS];refine av 3 (i64 x) rfl ar ah ?_;simp only [sS];refine av 4 (.bool false) rfl ar ah ?_;simp only [sS];refine av 5 (.bool false) rfl ar ah ?_;simp only [sS];refine av 6 (.slice (some ⟨b,o,none⟩) l.length cap) rfl ar ah ?_;simp only [sS];refine av 7 (.int .i64 ((p+1:Nat):Int)) rfl ar ah ?_;simp only [sS];refine av 8 (.pointer (some ⟨b,o+(p+1),none⟩)) rfl ar ah ?_;simp only [sS];refine av 9 (i64 x) rfl ar ah ?_;simp only [sS];refine av 10 (i64 n) rfl ar ah ?_;simp only [sS];refine av 11 (.bool true) rfl ar ah ?_;simp only [sS];refine av 12 (.bool true) rfl ar ah ?_;simp only [sS];refine av 13 (.bool true) rfl ar ah ?_;simp only [sS];refine cA 14 rfl ar ah ?_;simp only [sS];refine cA 15 rfl ar ah ?_;simp only [sS];refine cA 16 rfl ar ah ?_;simp only [sS];refine cA 17 rfl ar ah ?_;simp only [sS];refine cA 18 rfl ar ah ?_;simp only [sS];refine cA 19 rfl ar ah ?_;simp only [sS];refine cA 20 rfl ar ah ?_;simp only [sS];refine cA 21 rfl ar ah ?_;simp only [sS];refine cA 22 rfl ar ah ?_;simp only [sS];refine cA 23 rfl ar ah ?_;simp only [sS];refine cA 24 rfl ar ah ?_;simp only [sS];refine cA 25 rfl ar ah ?_;simp only [sS];refine cA 26 rfl ar ah ?_;simp only [sS];refine cA 27 rfl ar ah ?_;simp only [sS];refine av 28 (.bool true) rfl ar ah ?_;simp only [sS];refine ax (by kernel_rfl) ?_ _;clear ar ah;go_wp2_with fail
      go_ret;exact ⟨by rw [HQ.out];rfl,HX.out⟩
     ·by_cases h3:x≤y
      ·have HQ:Hid (sb=false):=Ag.out (by rw [ky.out];simp;intro h;omega)
       go_wp2_with fail
       refine ay (fun w'=>w'.cell? ⟨b,o+(p+1),none⟩=some (i64 x)∧w'.cell? ⟨b,o+p,none⟩=some (i64 y)) (fun w'=>True) (fun i=>false) (by kernel_rfl) (⟨c0,d0⟩) (trivial) (fun ar ah=> ?_);refine av 0 (.slice (some ⟨b,o,none⟩) l.length cap) rfl ar ah ?_;simp only [sS];refine av 1 (.int .i64 ((p+1:Nat):Int)) rfl ar ah ?_;simp only [sS];refine av 2 (.pointer (some ⟨b,o+(p+1),none⟩)) rfl ar ah ?_;simp only [sS];refine av 3 (i64 x) rfl ar ah ?_;simp only [sS];refine av 4 (.bool false) rfl ar ah ?_;simp only [sS];refine av 5 (.bool false) rfl ar ah ?_;simp only [sS];refine av 6 (.slice (some ⟨b,o,none⟩) l.length cap) rfl ar ah ?_;simp only [sS];refine av 7 (.int .i64 ((p+1:Nat):Int)) rfl ar ah ?_;simp only [sS];refine av 8 (.pointer (some ⟨b,o+(p+1),none⟩)) rfl ar ah ?_;simp only [sS];refine av 9 (i64 x) rfl ar ah ?_;simp only [sS];refine av 10 (i64 n) rfl ar ah ?_;simp only [sS];refine av 11 (.bool false) rfl ar ah ?_;simp only [sS];refine av 12 (.bool false) rfl ar ah ?_;simp only [sS];refine av 13 (.bool false) rfl ar ah ?_;simp only [sS];refine av 14 (.int .i64 ((p+1:Nat):Int)) rfl ar ah ?_;simp only [sS];refine av 15 (.bool true) rfl ar ah ?_;simp only [sS];refine av 16 (.bool true) rfl ar ah ?_;simp only [sS];refine av 17 (.slice (some ⟨b,o,none⟩) l.length cap) rfl ar ah ?_;simp only [sS];refine av 18 (.int .i64 ((p+1:Nat):Int)) rfl ar ah ?_;simp only [sS];refine av 19 (.int .i64 (p:Int)) rfl ar ah ?_;simp only [sS];refine av 20 (.pointer (some ⟨b,o+p,none⟩)) rfl ar ah ?_;simp only [sS];refine av 21 (i64 y) rfl ar ah ?_;simp only [sS];refine av 22 (.slice (some ⟨b,o,none⟩) l.length cap) rfl ar ah ?_;simp only [sS];refine av 23 (.int .i64 ((p+1:Nat):Int)) rfl ar ah ?_;simp only [sS];refine av 24 (.pointer (some ⟨b,o+(p+1),none⟩)) rfl ar ah ?_;simp only [sS];refine av 25 (i64 x) rfl ar ah ?_;simp only [sS];refine av 26 (.bool true) rfl ar ah ?_;simp only [sS];refine av 27 (.bool true) rfl ar ah ?_;simp only [sS];refine av 28 (.bool true) rfl ar ah ?_;simp only [sS];refine ax (by kernel_rfl) ?_ _;clear ar ah;go_wp2_with fail
       go_ret;exact ⟨by rw [HQ.out];rfl,HX.out⟩
      ·have HQ:=ae (HST.out true (by rw [ky.out];simp;omega) rfl)
       go_wp2_with fail
       refine ay (fun w'=>w'.cell? ⟨b,o+(p+1),none⟩=some (i64 x)∧w'.cell? ⟨b,o+p,none⟩=some (i64 y)) (fun w'=>True) (fun i=>false) (by kernel_rfl) (⟨c0,d0⟩) (trivial) (fun ar ah=> ?_);refine av 0 (.slice (some ⟨b,o,none⟩) l.length cap) rfl ar ah ?_;simp only [sS];refine av 1 (.int .i64 ((p+1:Nat):Int)) rfl ar ah ?_;simp only [sS];refine av 2 (.pointer (some ⟨b,o+(p+1),none⟩)) rfl ar ah ?_;simp only [sS];refine av 3 (i64 x) rfl ar ah ?_;simp only [sS];refine av 4 (.bool false) rfl ar ah ?_;simp only [sS];refine av 5 (.bool false) rfl ar ah ?_;simp only [sS];refine av 6 (.slice (some ⟨b,o,none⟩) l.length cap) rfl ar ah ?_;simp only [sS];refine av 7 (.int .i64 ((p+1:Nat):Int)) rfl ar ah ?_;simp only [sS];refine av 8 (.pointer (some ⟨b,o+(p+1),none⟩)) rfl ar ah ?_;simp only [sS];refine av 9 (i64 x) rfl ar ah ?_;simp only [sS];refine av 10 (i64 n) rfl ar ah ?_;simp only [sS];refine av 11 (.bool false) rfl ar ah ?_;simp only [sS];refine av 12 (.bool false) rfl ar ah ?_;simp only [sS];refine av 13 (.bool false) rfl ar ah ?_;simp only [sS];refine av 14 (.int .i64 ((p+1:Nat):Int)) rfl ar ah ?_;simp only [sS];refine av 15 (.bool true) rfl ar ah ?_;simp only [sS];refine av 16 (.bool true) rfl ar ah ?_;simp only [sS];refine av 17 (.slice (some ⟨b,o,none⟩) l.length cap) rfl ar ah ?_;simp only [sS];refine av 18 (.int .i64 ((p+1:Nat):Int)) rfl ar ah ?_;simp only [sS];refine av 19 (.int .i64 (p:Int)) rfl ar ah ?_;simp only [sS];refine av 20 (.pointer (some ⟨b,o+p,none⟩)) rfl ar ah ?_;simp only [sS];refine av 21 (i64 y) rfl ar ah ?_;simp only [sS];refine av 22 (.slice (some ⟨b,o,none⟩) l.length cap) rfl ar ah ?_;simp only [sS];refine av 23 (.int .i64 ((p+1:Nat):Int)) rfl ar ah ?_;simp only [sS];refine av 24 (.pointer (some ⟨b,o+(p+1),none⟩)) rfl ar ah ?_;simp only [sS];refine av 25 (i64 x) rfl ar ah ?_;simp only [sS];refine av 26 (.bool false) rfl ar ah ?_;simp only [sS];refine av 27 (.bool false) rfl ar ah ?_;simp only [sS];refine av 28 (.bool false) rfl ar ah ?_;simp only [sS];refine ax (by kernel_rfl) ?_ _;clear ar ah;go_wp2_with fail
       exact ⟨⟨p+1+1,by omega,HX.out,HQ.out,by go_num⟩,by simp only [intOf];omega⟩
  ·obtain rfl:i=l.length:=by omega
   have HQ:=ae (Px.out hA);have HX:=ae hX;clear hA hX;go_wp2_with fail
   go_ret;exact ⟨by rw [←HQ.out];rfl,HX.out⟩
def h_ (w:World) (B:Nat) (f:Nat→Int) (n:Nat):Prop:=aG w B 3 ((List.range n).map fun b=>i64 (f b))
theorem h_.cell {w:World} {B:Nat} {f:Nat→Int} {n:Nat} (h:h_ w B f n) (k:Nat) (hk:k<n):w.cell? ⟨B,k,none⟩=some (i64 (f k))∧w.frozen? ⟨B,k,none⟩=false:=
 ⟨by rw [aG.cell h k];simp [hk],aG.frozen h k⟩
theorem h_.ext {w w':World} {B:Nat} {f:Nat→Int} {n:Nat} (h:h_ w B f n) (e:Ext w w'):h_ w' B f n:=aG.ext h e
theorem h_.lt {w:World} {B:Nat} {f:Nat→Int} {n:Nat} (h:h_ w B f n):B<w.heap.size:=aG.lt h
theorem h_.congr {w:World} {B:Nat} {f g:Nat→Int} {n:Nat} (h:h_ w B f n) (e: ∀b,b<n→f b=g b):h_ w B g n:=by
 unfold h_ at*
 have:((List.range n).map fun b=>i64 (g b))=(List.range n).map fun b=>i64 (f b):=by
  apply List.map_congr_left;intro b hb;rw [e b (List.mem_range.1 hb)]
 rw [this];exact h
theorem h_.set {w:World} {B:Nat} {f:Nat→Int} {n:Nat} (h:h_ w B f n) (k:Nat) (v:Int):h_ (w.setCell ⟨B,k,none⟩ (i64 v)) B (fun b=>if b=k then v else f b) n:=by
 unfold h_ at*;have h5:=aG.set h k (i64 v)
 have:((List.range n).map fun b=>i64 (f b)).set k (i64 v)=(List.range n).map fun b=>i64 (if b=k then v else f b):=by
  apply List.ext_getElem
  ·simp
  ·intro i h1 h2
   rw [List.getElem_set];simp only [List.getElem_map,List.getElem_range];by_cases hik:k=i
   ·subst hik;simp
   ·rw [if_neg hik,if_neg (fun e=>hik e.symm)]
 rw [this]at h5;exact h5
theorem h_.zero {w:World} {B:Nat} {n:Nat} (f:Nat→Int) (h:aG w B 3 (List.replicate n (.int .i64 0))):h_ w B (fun b=>if b<0 then f b else 0) n:=by
 unfold h_
 have:((List.range n).map fun b=>i64 (if b<0 then f b else 0))=List.replicate n (.int .i64 0):=by
  apply List.ext_getElem
  ·simp
  ·intro i h1 h2;simp
 rw [this];exact h
theorem h_.next {w:World} {B n k:Nat} {f:Nat→Int} (h:h_ w B (fun b=>if b<k then f b else 0) n):h_ (w.setCell ⟨B,k,none⟩ (i64 (f k))) B (fun b=>if b<k+1 then f b else 0) n:=
 (h.set k (f k)).congr fun b _=>by
   show(if b=k then f k else if b<k then f b else 0)=(if b<k+1 then f b else 0);by_cases e:b=k
   ·subst e;simp
   ·rw [if_neg e]
    by_cases e2:b<k
    ·rw [if_pos e2,if_pos (by omega)]
    ·rw [if_neg e2,if_neg (by omega)]
theorem h_.keep {w:World} {B n k:Nat} {f:Nat→Int} (h:h_ w B (fun b=>if b<k then f b else 0) n) (e:f k=0):h_ w B (fun b=>if b<k+1 then f b else 0) n:=
 h.congr fun b _=>by
  show(if b<k then f b else 0)=(if b<k+1 then f b else 0);by_cases q:b=k
  ·subst q;simp [e]
  ·by_cases e2:b<k
   ·rw [if_pos e2,if_pos (by omega)]
   ·rw [if_neg e2,if_neg (by omega)]
theorem h_.full {w:World} {B n:Nat} {f:Nat→Int} (h:h_ w B (fun b=>if b<n then f b else 0) n):h_ w B f n:=h.congr fun b hb=>by simp [hb]
set_option maxHeartbeats 1000000 in
set_option maxRecDepth 100000 in
theorem uL (w0 V:World) (c:aq) (h:Int) (hV:Ext w0 V) (hc:aT w0 c) (hn:c.aj.length≤1000000):
 Calls Tryz.prog 86 #[.agg (C8 c),i64 h] V fun e w'=> ∃b,e= .returned (.slice (some ⟨b,0,none⟩) c.aj.length c.aj.length)∧h_ w' b (bC c h) c.aj.length∧Ext V w'∧V.heap.size≤b:=by
 try unfold C8
 have hr:=hc.aj;have hle:=hr.le;have di:=hr.cap
 rw [List.length_map]at hle;have HR:=ae hr;have HV:=ae hV;have Jk:=ae hc.unit
 clear hc hr hV;go_enter Tryz.func86,Tryz.ntmps86
 go_upto_region 1 with fail
 obtain ⟨W,hW,x0,Z0,A0⟩:=aB V 32 c.cells;rw [show V.alloc (.cells (C8 c) 32)=W from hW.symm];obtain ⟨B,hB⟩: ∃B,B=V.heap.size:=⟨_,rfl⟩;rw [←hB]at A0⊢;have HX:=ae x0;have HA:=ae A0
 clear hW x0 Z0 A0;obtain ⟨-,-,-,-,k4,-⟩:=aq.at HA.out;have kr:=ae hB;clear hB;go_wp2_with (at_make;refine dG _ rfl _ _ 22 rfl 3 (.int .i64 0) 8 Tryz.underlying22 Tryz.info_int rfl _ _ c.aj.length rfl rfl rfl rfl (by omega) (by omega) ?_;intro w1 eE hx1 hz1;have k4':=ai hx1 k4)
 obtain ⟨L,hL⟩: ∃L,L=W.heap.size:=⟨_,rfl⟩;rw [←hL]at eE⊢;have uu:Hid (W.heap.size≤L):=by show _≤_;omega
 have rL:=ae (h_.zero (bC c h) eE.out);have eK:=ae hx1
 clear eE hx1 hz1 hL k4 k4';go_loopw [15] (fun ii wr=> ∃k:Nat,k≤c.aj.length∧h_ wr L (fun b=>if b<k then bC c h b else 0) c.aj.length∧Ext W wr∧ii= .int .i64 k) (fun ii _=>c.aj.length-(intOf ii).toNat)
 case atStart=>exact ⟨0,Nat.zero_le _,rL.out,eK.out,rfl⟩
 case round=>
  obtain ⟨i,hi,hT,hE,rfl⟩:=hrel;clear rL eK;by_cases hlt:i<c.aj.length
  ·obtain ⟨b,o,ha,eM⟩:=((HR.out.ext HV.out).ext (HX.out.trans hE)).adds i (by simpa using hlt)
   rw [List.getElem_map]at eM;have Mi:=(Jk.out c.aj[i] (List.getElem_mem hlt)).2.1
   have rS:Hid (bC c h i=if hasB c.aj[i].away h=true then 0 else c.aj[i].max):=by
    show _=_;unfold bC;rw [tH hlt,yT hlt]
   obtain ⟨x,eU⟩: ∃x,x=c.aj[i]:=⟨_,rfl⟩;rw [←eU]at eM Mi rS;have fM:(0:Int)≤(i:Int):=by omega
   have fH:(i:Int)<(c.aj.length:Int):=by omega
   have Gp:=ae ((Mi.ext HV.out).ext (HX.out.trans hE));have xQ:=ae hT;have HE:=ae hE
   have HAD:Hid (∀j v,[.string x.name,i64 x.cX,i64 x.min,i64 x.max,.slice x.sa x.aI.length x.sc,i64 x.cg,i64 x.cj,i64 x.a_,i64 x.aW,i64 x.bf,i64 x.bQ,i64 x.bg,i64 x.startTime,i64 x.bA,i64 x.bh,i64 x.bj,i64 x.az,i64 x.aJ,.slice x.aa x.away.length x.ac,i64 x.state,i64 x.hours,i64 x.output][j]?=some v→wr.cell? (Addr.add ⟨b,o+i*22,none⟩ j)=some v):=eM;clear eM hT hE Mi eU;rw [ha];clear ha;go_upto_region 5 with(first|(refine aQ rfl 67 _ rfl ⟨b,o+i*22,none⟩ rfl [.string x.name,i64 x.cX,i64 x.min,i64 x.max,.slice x.sa x.aI.length x.sc,i64 x.cg,i64 x.cj,i64 x.a_,i64 x.aW,i64 x.bf,i64 x.bQ,i64 x.bg,i64 x.startTime,i64 x.bA,i64 x.bh,i64 x.bj,i64 x.az,i64 x.aJ,.slice x.aa x.away.length x.ac,i64 x.state,i64 x.hours,i64 x.output] _ HAD.out Tryz.underlying67 rfl (by kernel_rfl) ?_)|(refine bD rfl 67 _ _ rfl _ [.string x.name,i64 x.cX,i64 x.min,i64 x.max,.slice x.sa x.aI.length x.sc,i64 x.cg,i64 x.cj,i64 x.a_,i64 x.aW,i64 x.bf,i64 x.bQ,i64 x.bg,i64 x.startTime,i64 x.bA,i64 x.bh,i64 x.bj,i64 x.az,i64 x.aJ,.slice x.aa x.away.length x.ac,i64 x.state,i64 x.hours,i64 x.output] rfl rfl (by kernel_rfl) rfl rfl ?_))
   obtain ⟨W1,hW1,x1,Z1,A1⟩:=aB wr 67 x.cells;rw [show wr.alloc (.cells #[.string x.name,i64 x.cX,i64 x.min,i64 x.max,.slice x.sa x.aI.length x.sc,i64 x.cg,i64 x.cj,i64 x.a_,i64 x.aW,i64 x.bf,i64 x.bQ,i64 x.bg,i64 x.startTime,i64 x.bA,i64 x.bh,i64 x.bj,i64 x.az,i64 x.aJ,.slice x.aa x.away.length x.ac,i64 x.state,i64 x.hours,i64 x.output] 67)=W1 from hW1.symm];obtain ⟨E,j5⟩: ∃E,E=wr.heap.size:=⟨_,rfl⟩;rw [←j5]at A1⊢;obtain ⟨-,-,-,u3,-,-,-,-,-,-,-,-,-,-,-,-,-,-,u18,-,-,-⟩:=aF.at A1;have gO:=ae (j1 W1 _ _ _ h (Gp.out.ext x1));have HT:=ae (xQ.out.ext x1);have p7:=ae (HE.out.trans x1)
   obtain ⟨l0,f0⟩:=HT.out.cell i hlt;clear hW1 A1 Z1 x1 j5 Gp HE HAD xQ;rcases Bool.eq_false_or_eq_true (hasB x.away h)with hq|hq
   ·rw [hq]at gO
    have ku:=ae (HT.out.keep (by rw [rS.out,if_pos hq]));clear hq l0 f0;go_wp2_with fail
    refine gO.out.mono ?_;rintro e w1 ⟨rfl,eE⟩;rw [eE];clear eE
    go_wp2_with fail
    exact ⟨⟨i+1,by omega,ku.out,p7.out,by go_num⟩,by simp only [intOf];omega⟩
   ·rw [hq]at gO
    have Oe:bC c h i=x.max:=by rw [rS.out,if_neg (by rw [hq];simp)]
    have Jq:=HT.out.next;rw [Oe]at Jq;have ku:=ae Jq;have sy:=ae (p7.out.setCell (p:=⟨L,i,none⟩) uu.out (i64 x.max));clear hq Oe Jq;go_wp2_with fail
    refine gO.out.mono ?_;rintro e w1 ⟨rfl,eE⟩;rw [eE];clear eE
    go_wp2_with fail
    exact ⟨⟨i+1,by omega,ku.out,sy.out,by go_num⟩,by simp only [intOf];omega⟩
  ·obtain rfl:i=c.aj.length:=by omega
   have ku:=ae hT.full;have sy:=ae hE
   clear hT hE;go_wp2_with fail
   go_ret;exact ⟨L,rfl,ku.out,HX.out.trans sy.out,by have:=HX.out.size;have:=uu.out;omega⟩
set_option maxHeartbeats 1000000 in
set_option maxRecDepth 100000 in
theorem wW (w0 V:World) (c:aq) (u:Nat) (h:Int) (hV:Ext w0 V) (hc:aT w0 c) (hu:u<c.aj.length):
 Calls Tryz.prog 153 #[.agg (C8 c),.int .i64 (u:Int),i64 h] V fun e w'=>e= .returned (i64 (bC c h u))∧Ext V w':=by
 try unfold C8
 have hle:=hc.aj.le;have di:=hc.aj.cap
 rw [List.length_map]at hle;obtain ⟨b,o,ha,-,-,-,c3,-,-,-,-,-,-,-,-,-,-,-,-,-,-,c18,-⟩:=(hc.aj.ext hV).aj u hu;have Mi:=((hc.unit c.aj[u] (List.getElem_mem hu)).2.1).ext hV
 have rS:Hid (bC c h u=if hasB c.aj[u].away h=true then 0 else c.aj[u].max):=by
  show _=_;unfold bC;rw [tH hu,yT hu]
 obtain ⟨x,eU⟩: ∃x,x=c.aj[u]:=⟨_,rfl⟩;rw [←eU]at c3 c18 Mi rS;have Jk:=ae Mi;have j3:=ae ha
 have fM:(0:Int)≤(u:Int):=by omega
 have fH:(u:Int)<(c.aj.length:Int):=by omega
 clear Mi eU hc hV ha;go_enter Tryz.func153,Tryz.ntmps153
 go_upto_region 1 with fail
 obtain ⟨W,hW,x0,Z0,A0⟩:=aB V 32 c.cells;rw [show V.alloc (.cells (C8 c) 32)=W from hW.symm];obtain ⟨B,hB⟩: ∃B,B=V.heap.size:=⟨_,rfl⟩;rw [←hB]at A0⊢;have HX:=ae x0;have HA:=ae A0
 clear hW x0 Z0 A0;obtain ⟨-,-,-,-,k4,-⟩:=aq.at HA.out;rw [j3.out]at k4;have c3:=ai HX.out c3;have c18:=ai HX.out c18;have qU:=ae (Fh W x.aa x.ac x.away h (Jk.out.ext HX.out));clear hB;rcases Bool.eq_false_or_eq_true (hasB x.away h)with hq|hq
 ·have HQ:Hid (bC c h u=0):=by show _=_;rw [rS.out,if_pos hq]
  rw [hq]at qU;clear hq;go_wp2_with fail
  refine qU.out.mono ?_;rintro e w1 ⟨rfl,eE⟩;rw [eE];clear eE
  go_wp2_with fail
  go_ret;exact ⟨by rw [HQ.out];rfl,HX.out⟩
 ·have HQ:Hid (bC c h u=x.max):=by show _=_;rw [rS.out,if_neg (by rw [hq];simp)]
  rw [hq]at qU;clear hq;go_wp2_with fail
  refine qU.out.mono ?_;rintro e w1 ⟨rfl,eE⟩;rw [eE];clear eE
  go_wp2_with fail
  go_ret;exact ⟨by rw [HQ.out];rfl,HX.out⟩
set_option maxHeartbeats 2000000 in
set_option maxRecDepth 100000 in
theorem Jr (w0 V:World) (c:aq) (h:Nat) (hV:Ext w0 V) (hc:aT w0 c) (eR:eZ c) (hh:(h:Int)<c.hours):
 Calls Tryz.prog 88 #[.agg (C8 c),.int .i64 (h:Int)] V fun e w'=>e= .returned (i64 (kK c h))∧Ext V w':=by
 try unfold C8
 have AW:=hc.au.le;have yI:=hc.au.cap
 have Mj:=hc.stores.le;have Py:=hc.stores.cap
 have Mk:=hc.aN.le;have Pz:=hc.aN.cap
 rw [List.length_map]at AW Mj Mk;have hf:=eR.frame;have EN:=hf.Gi;have hb2:=hf.au.2;have hb5:=hf.stores;have hb6:=hf.aN
 have Ui:=hc.az.le;have PA:=hc.az.cap
 obtain ⟨rb,ro,PB,r0⟩:=(hc.az.ext hV).cell h (by omega);rw [←dM (show h<c.az.length by omega)]at r0;have Gr:=ae (j9 hf.res h (by omega));have iB:=ae (mM eR h hh);have PC:=ae (mN eR);have Uj:=ae (mO eR h hh)
 have ky:=ae eR;have dB:=ae hc;have HV:=ae hV;have Uk:=ae PB;have PD:=ae hh
 obtain ⟨rv,IE⟩: ∃rv,rv=eF c.az h:=⟨_,rfl⟩;have Ml:Hid (kK c h=rv+fl c h c.au.length-gY c c.stores.length-jr c h c.aN.length):=by show _=_;rw [IE];rfl
 rw [←IE]at r0 Gr;have Mm:(0:Int)≤(h:Int):=by omega
 have Mn:(h:Int)<(c.az.length:Int):=by omega
 clear eR hc hV PB hf EN IE hh;go_enter Tryz.func88,Tryz.ntmps88
 go_upto_region 1 with fail
 obtain ⟨W,hW,x0,Z0,A0⟩:=aB V 32 c.cells;rw [show V.alloc (.cells (C8 c) 32)=W from hW.symm];obtain ⟨B,hB⟩: ∃B,B=V.heap.size:=⟨_,rfl⟩;rw [←hB]at A0⊢;have HX:=ae x0;have HA:=ae A0
 clear hW x0 Z0 A0;obtain ⟨-,k1,k2,-,-,k5,k6,-⟩:=aq.at HA.out;rw [Uk.out]at k1;have r0:=ai HX.out r0;clear hB;go_wp2_with fail
 clear k1 k2 k5 k6 r0 Mm Mn;go_loopw [5,20] (fun sv ii wr=> ∃(k:Nat) (s:Int),k≤c.au.length∧s=rv+fl c h k∧sv= .int .i64 s∧Ext W wr∧ii= .int .i64 k) (fun _ ii _=>c.au.length-(intOf ii).toNat)
 case atStart=>exact ⟨0,rv,Nat.zero_le _,by simp [fl],rfl,Ext.refl _,rfl⟩
 case round=>
  obtain ⟨k,s,hk,hs,rfl,hE,rfl⟩:=hrel;obtain ⟨-,k1,k2,-,-,k5,k6,-⟩:=aq.at (HA.out.ext hE);by_cases hlt:k<c.au.length
  ·obtain ⟨b,o,ha,c0,c1,c2⟩:=((dB.out.au.ext HV.out).ext (HX.out.trans hE)).au k hlt
   have tK:=ky.out.cX c.au[k] (List.getElem_mem hlt);have tL:=((dB.out.cX c.au[k] (List.getElem_mem hlt)).2.1.ext HV.out).ext (HX.out.trans hE);have hsc:=ot c h hlt;have hrg:=iB.out k (by omega);obtain ⟨x,eU⟩: ∃x,x=c.au[k]:=⟨_,rfl⟩;rw [←eU]at c0 c1 c2 tK tL hsc;have wX:h<x.bU.length:=by have:=PD.out;omega
   have hdr:=j9 tK.2.1 h wX;have Mo:=tL.le;have Gs:=tL.cap
   obtain ⟨db,Ul,Gt,d0⟩:=tL.cell h wX;rw [←dM wX]at d0;obtain ⟨d,hd⟩: ∃d,d=eF x.bU h:=⟨_,rfl⟩;rw [←hd]at d0 hsc hdr;have Gu:=Gr.out;have hw:IntKind.i64.wrap (s+d)=s+d:=by rw [IntKind.wrap_i64];omega
   have Gv:=ae hsc;have HS:=ae hs;have Mp:=ae Gt
   clear Gt;have HE:=ae hE;have fM:(0:Int)≤(k:Int):=by omega
   have fH:(k:Int)<(c.au.length:Int):=by omega
   have Mm:(0:Int)≤(h:Int):=by omega
   have Mn:(h:Int)<(x.bU.length:Int):=by omega
   clear hs hE tK tL hsc eU hd hrg hdr Gu wX;rw [ha];clear ha;go_upto_region 5 with fail
   obtain ⟨W1,hW1,x1,Z1,A1⟩:=aB wr 74 x.cells;rw [show wr.alloc (.cells #[.string x.name,.slice x.da x.bU.length x.dc,i64 x.gF] 74)=W1 from hW1.symm];clear c0 c1 c2;obtain ⟨-,c1,c2⟩:=cN.at A1;rw [Mp.out]at c1;have d0:=ai x1 d0;have p7:=ae (HE.out.trans x1);clear hW1 Z1 A1 x1 k1 k2 k5 k6;by_cases hz:x.gF=0
   ·have tz:(x.gF==0)=true:=by rw [hz];rfl
    have HQ:Hid (s+d=rv+fl c h (k+1)):=by show _=_;rw [Gv.out,if_pos hz,HS.out];omega
    clear hz;go_wp2_with fail
    exact ⟨⟨k+1,s+d,by omega,HQ.out,by go_num,p7.out,by go_num⟩,by simp only [intOf];omega⟩
   ·have tz:(x.gF==0)=false:=by rw [beq_eq_false_iff_ne];exact hz
    have HQ:Hid (s=rv+fl c h (k+1)):=by show _=_;rw [Gv.out,if_neg hz,HS.out];omega
    clear hz;go_wp2_with fail
    exact ⟨⟨k+1,s,by omega,HQ.out,by go_num,p7.out,by go_num⟩,by simp only [intOf];omega⟩
  ·obtain rfl:k=c.au.length:=by omega
   have HS:=ae hs;have HE:=ae hE
   clear hs hE;obtain ⟨wo,uM⟩: ∃wo:World,wo=wr:=⟨_,rfl⟩;subst uM;go_wp2_with fail
   clear k1 k2 k5 k6;go_loopw [5,38] (fun sv ii wr=> ∃(k:Nat) (s:Int),k≤c.stores.length∧s=rv+fl c h c.au.length-gY c k∧sv= .int .i64 s∧Ext W wr∧ii= .int .i64 k) (fun _ ii _=>c.stores.length-(intOf ii).toNat)
   case atStart=>exact ⟨0,s,Nat.zero_le _,by rw [HS.out];simp [gY],rfl,HE.out,rfl⟩
   case round=>
    clear HS HE;obtain ⟨k,s2,hk,hs,rfl,hE,rfl⟩:=hrel;obtain ⟨-,k1,k2,-,-,k5,k6,-⟩:=aq.at (HA.out.ext hE);by_cases hlt:k<c.stores.length
    ·obtain ⟨b,o,ha,c0,c1,c2,c3,c4,c5,c6,c7,c8⟩:=((dB.out.stores.ext HV.out).ext (HX.out.trans hE)).stores k hlt
     have tK:=(ky.out.store c.stores[k] (List.getElem_mem hlt)).discharge;have hsc:=ov c hlt;have hrg:=PC.out k (by omega);obtain ⟨x,eU⟩: ∃x,x=c.stores[k]:=⟨_,rfl⟩;rw [←eU]at c0 c1 c2 c3 c4 c5 c6 c7 c8 tK hsc;have Gu:=Gr.out;have xR:=iB.out c.au.length (Nat.le_refl _);have hw:IntKind.i64.wrap (s2-x.discharge)=s2-x.discharge:=by rw [IntKind.wrap_i64];omega
     have HQ:Hid (s2-x.discharge=rv+fl c h c.au.length-gY c (k+1)):=by show _=_;rw [hsc,hs];omega
     have HE:=ae hE;have fM:(0:Int)≤(k:Int):=by omega
     have fH:(k:Int)<(c.stores.length:Int):=by omega
     clear hs hE tK hsc eU hrg Gu xR;rw [ha];clear ha;go_upto_region 11 with fail
     obtain ⟨W1,hW1,x1,Z1,A1⟩:=aB wr 82 x.cells;rw [show wr.alloc (.cells #[.string x.name,i64 x.cX,i64 x.capacity,i64 x.initial,i64 x.final,i64 x.dI,i64 x.discharge,i64 x.en,i64 x.ed] 82)=W1 from hW1.symm];clear c0 c1 c2 c3 c4 c5 c6 c7 c8;obtain ⟨-,-,-,-,-,-,c6,-,-⟩:=bp.at A1;have p7:=ae (HE.out.trans x1);clear hW1 Z1 A1 x1 k1 k2 k5 k6;go_wp2_with fail
     exact ⟨⟨k+1,s2-x.discharge,by omega,HQ.out,by go_num,p7.out,by go_num⟩,by simp only [intOf];omega⟩
    ·obtain rfl:k=c.stores.length:=by omega
     have HS:=ae hs;have HE:=ae hE
     clear hs hE;obtain ⟨PE,uM⟩: ∃PE:World,PE=wr:=⟨_,rfl⟩;subst uM;go_wp2_with fail
     clear k1 k2 k5 k6;go_loopw [5,50] (fun sv ii wr=> ∃(k:Nat) (s:Int),k≤c.aN.length∧s=rv+fl c h c.au.length-gY c c.stores.length-jr c h k∧sv= .int .i64 s∧Ext W wr∧ii= .int .i64 k) (fun _ ii _=>c.aN.length-(intOf ii).toNat)
     case atStart=>exact ⟨0,s2,Nat.zero_le _,by rw [HS.out];simp [jr],rfl,HE.out,rfl⟩
     case round=>
      clear HS HE;obtain ⟨k,s3,hk,hs,rfl,hE,rfl⟩:=hrel;obtain ⟨-,k1,k2,-,-,k5,k6,-⟩:=aq.at (HA.out.ext hE);by_cases hlt:k<c.aN.length
      ·obtain ⟨b,o,ha,c0,c1,c2,c3,c4⟩:=((dB.out.aN.ext HV.out).ext (HX.out.trans hE)).aN k hlt
       have tK:=(ky.out.tie c.aN[k] (List.getElem_mem hlt)).imp;have tL:=((dB.out.tie c.aN[k] (List.getElem_mem hlt)).2.1.ext HV.out).ext (HX.out.trans hE);have hsc:=ow c h hlt;have hrg:=Uj.out k (by omega);obtain ⟨x,eU⟩: ∃x,x=c.aN[k]:=⟨_,rfl⟩;rw [←eU]at c0 c1 c2 c3 c4 tK tL hsc;have wX:h<x.imp.length:=by have:=PD.out;omega
       have hdr:=j9 tK.2 h wX;have Mo:=tL.le;have Gs:=tL.cap
       obtain ⟨db,Ul,Gt,d0⟩:=tL.cell h wX;rw [←dM wX]at d0;obtain ⟨d,hd⟩: ∃d,d=eF x.imp h:=⟨_,rfl⟩;rw [←hd]at d0 hsc hdr;have Mp:=ae Gt;clear Gt;have Gu:=Gr.out;have xR:=iB.out c.au.length (Nat.le_refl _);have tM:=PC.out c.stores.length (Nat.le_refl _);have hw:IntKind.i64.wrap (s3-d)=s3-d:=by rw [IntKind.wrap_i64];omega
       have HQ:Hid (s3-d=rv+fl c h c.au.length-gY c c.stores.length-jr c h (k+1)):=by show _=_;rw [hsc,hs];omega
       have HE:=ae hE;have fM:(0:Int)≤(k:Int):=by omega
       have fH:(k:Int)<(c.aN.length:Int):=by omega
       have Mm:(0:Int)≤(h:Int):=by omega
       have Mn:(h:Int)<(x.imp.length:Int):=by omega
       clear hs hE tK tL hsc eU hd hrg hdr Gu wX xR tM;rw [ha];clear ha;go_upto_region 16 with fail
       obtain ⟨W1,hW1,x1,Z1,A1⟩:=aB wr 84 x.cells;rw [show wr.alloc (.cells #[.string x.name,i64 x.cX,.slice x.ia x.imp.length x.ic,.slice x.ea x.exp.length x.ec,.slice x.pa x.aX.length x.pc] 84)=W1 from hW1.symm];clear c0 c1 c2 c3 c4;obtain ⟨-,-,c2,-,-⟩:=dW.at A1;rw [Mp.out]at c2;have d0:=ai x1 d0;have p7:=ae (HE.out.trans x1);clear hW1 Z1 A1 x1 k1 k2 k5 k6;go_wp2_with fail
       exact ⟨⟨k+1,s3-d,by omega,HQ.out,by go_num,p7.out,by go_num⟩,by simp only [intOf];omega⟩
      ·obtain rfl:k=c.aN.length:=by omega
       have HS:=ae hs;have HE:=ae hE
       clear hs hE;go_wp2_with fail
       go_ret;exact ⟨by rw [Ml.out,←HS.out];rfl,HX.out.trans HE.out⟩
set_option maxHeartbeats 2000000 in
set_option maxRecDepth 100000 in
theorem Gw (w0 V:World) (c:aq) (h:Nat) (hV:Ext w0 V) (hc:aT w0 c) (eR:eZ c) (hh:(h:Int)<c.hours):
 Calls Tryz.prog 92 #[.agg (C8 c),.int .i64 (h:Int)] V fun e w'=>e= .returned (i64 (kK c h))∧Ext V w':=by
 try unfold C8
 have AW:=hc.au.le;have yI:=hc.au.cap
 have Mj:=hc.stores.le;have Py:=hc.stores.cap
 have Mk:=hc.aN.le;have Pz:=hc.aN.cap
 rw [List.length_map]at AW Mj Mk;have hf:=eR.frame;have EN:=hf.Gi;have hb2:=hf.au.2;have hb5:=hf.stores;have hb6:=hf.aN
 have Ui:=hc.az.le;have PA:=hc.az.cap
 obtain ⟨rb,ro,PB,r0⟩:=(hc.az.ext hV).cell h (by omega);rw [←dM (show h<c.az.length by omega)]at r0;have Gr:=ae (j9 hf.res h (by omega));have iB:=ae (mM eR h hh);have PC:=ae (mN eR);have Uj:=ae (mO eR h hh)
 have ky:=ae eR;have dB:=ae hc;have HV:=ae hV;have Uk:=ae PB;have PD:=ae hh
 obtain ⟨rv,IE⟩: ∃rv,rv=eF c.az h:=⟨_,rfl⟩;have Ml:Hid (kK c h=rv+fl c h c.au.length-gY c c.stores.length-jr c h c.aN.length):=by show _=_;rw [IE];rfl
 rw [←IE]at r0 Gr;have Mm:(0:Int)≤(h:Int):=by omega
 have Mn:(h:Int)<(c.az.length:Int):=by omega
 clear eR hc hV PB hf EN IE hh;go_enter Tryz.func92,Tryz.ntmps92
 go_upto_region 1 with fail
 obtain ⟨W,hW,x0,Z0,A0⟩:=aB V 32 c.cells;rw [show V.alloc (.cells (C8 c) 32)=W from hW.symm];obtain ⟨B,hB⟩: ∃B,B=V.heap.size:=⟨_,rfl⟩;rw [←hB]at A0⊢;have HX:=ae x0;have HA:=ae A0
 clear hW x0 Z0 A0;obtain ⟨-,k1,k2,-,-,k5,k6,-⟩:=aq.at HA.out;rw [Uk.out]at k1;have r0:=ai HX.out r0;clear hB;go_wp2_with fail
 clear k1 k2 k5 k6 r0 Mm Mn;go_loopw [5,6] (fun sv ii wr=> ∃(k:Nat) (s:Int),k≤c.au.length∧s=rv+fl c h k∧sv= .int .i64 s∧Ext W wr∧ii= .int .i64 k) (fun _ ii _=>c.au.length-(intOf ii).toNat)
 case atStart=>exact ⟨0,rv,Nat.zero_le _,by simp [fl],rfl,Ext.refl _,rfl⟩
 case round=>
  obtain ⟨k,s,hk,hs,rfl,hE,rfl⟩:=hrel;obtain ⟨-,k1,k2,-,-,k5,k6,-⟩:=aq.at (HA.out.ext hE);by_cases hlt:k<c.au.length
  ·obtain ⟨b,o,ha,c0,c1,c2⟩:=((dB.out.au.ext HV.out).ext (HX.out.trans hE)).au k hlt
   have tK:=ky.out.cX c.au[k] (List.getElem_mem hlt);have tL:=((dB.out.cX c.au[k] (List.getElem_mem hlt)).2.1.ext HV.out).ext (HX.out.trans hE);have hsc:=ot c h hlt;have hrg:=iB.out k (by omega);obtain ⟨x,eU⟩: ∃x,x=c.au[k]:=⟨_,rfl⟩;rw [←eU]at c0 c1 c2 tK tL hsc;have wX:h<x.bU.length:=by have:=PD.out;omega
   have hdr:=j9 tK.2.1 h wX;have Mo:=tL.le;have Gs:=tL.cap
   obtain ⟨db,Ul,Gt,d0⟩:=tL.cell h wX;rw [←dM wX]at d0;obtain ⟨d,hd⟩: ∃d,d=eF x.bU h:=⟨_,rfl⟩;rw [←hd]at d0 hsc hdr;have Gu:=Gr.out;have hw:IntKind.i64.wrap (s+d)=s+d:=by rw [IntKind.wrap_i64];omega
   have Gv:=ae hsc;have HS:=ae hs;have Mp:=ae Gt
   clear Gt;have HE:=ae hE;have fM:(0:Int)≤(k:Int):=by omega
   have fH:(k:Int)<(c.au.length:Int):=by omega
   have Mm:(0:Int)≤(h:Int):=by omega
   have Mn:(h:Int)<(x.bU.length:Int):=by omega
   clear hs hE tK tL hsc eU hd hrg hdr Gu wX;rw [ha]at k2;rw [Mp.out]at c1;have p7:=HE;clear ha k1 k5 k6 c0;by_cases hz:x.gF=0
   ·have tz:(x.gF==0)=true:=by rw [hz];rfl
    have HQ:Hid (s+d=rv+fl c h (k+1)):=by show _=_;rw [Gv.out,if_pos hz,HS.out];omega
    clear hz;go_wp2_with fail
    exact ⟨⟨k+1,s+d,by omega,HQ.out,by go_num,p7.out,by go_num⟩,by simp only [intOf];omega⟩
   ·have tz:(x.gF==0)=false:=by rw [beq_eq_false_iff_ne];exact hz
    have HQ:Hid (s=rv+fl c h (k+1)):=by show _=_;rw [Gv.out,if_neg hz,HS.out];omega
    clear hz;go_wp2_with fail
    exact ⟨⟨k+1,s,by omega,HQ.out,by go_num,p7.out,by go_num⟩,by simp only [intOf];omega⟩
  ·obtain rfl:k=c.au.length:=by omega
   have HS:=ae hs;have HE:=ae hE
   clear hs hE;obtain ⟨wo,uM⟩: ∃wo:World,wo=wr:=⟨_,rfl⟩;subst uM;go_wp2_with fail
   clear k1 k2 k5 k6;go_loopw [5,7] (fun sv ii wr=> ∃(k:Nat) (s:Int),k≤c.stores.length∧s=rv+fl c h c.au.length-gY c k∧sv= .int .i64 s∧Ext W wr∧ii= .int .i64 k) (fun _ ii _=>c.stores.length-(intOf ii).toNat)
   case atStart=>exact ⟨0,s,Nat.zero_le _,by rw [HS.out];simp [gY],rfl,HE.out,rfl⟩
   case round=>
    clear HS HE;obtain ⟨k,s2,hk,hs,rfl,hE,rfl⟩:=hrel;obtain ⟨-,k1,k2,-,-,k5,k6,-⟩:=aq.at (HA.out.ext hE);by_cases hlt:k<c.stores.length
    ·obtain ⟨b,o,ha,c0,c1,c2,c3,c4,c5,c6,c7,c8⟩:=((dB.out.stores.ext HV.out).ext (HX.out.trans hE)).stores k hlt
     have tK:=(ky.out.store c.stores[k] (List.getElem_mem hlt)).discharge;have hsc:=ov c hlt;have hrg:=PC.out k (by omega);obtain ⟨x,eU⟩: ∃x,x=c.stores[k]:=⟨_,rfl⟩;rw [←eU]at c0 c1 c2 c3 c4 c5 c6 c7 c8 tK hsc;have Gu:=Gr.out;have xR:=iB.out c.au.length (Nat.le_refl _);have hw:IntKind.i64.wrap (s2-x.discharge)=s2-x.discharge:=by rw [IntKind.wrap_i64];omega
     have HQ:Hid (s2-x.discharge=rv+fl c h c.au.length-gY c (k+1)):=by show _=_;rw [hsc,hs];omega
     have HE:=ae hE;have fM:(0:Int)≤(k:Int):=by omega
     have fH:(k:Int)<(c.stores.length:Int):=by omega
     clear hs hE tK hsc eU hrg Gu xR;rw [ha]at k5;have p7:=HE;clear ha k1 k2 k6 c0 c1 c2 c3 c4 c5 c7 c8;go_wp2_with fail
     exact ⟨⟨k+1,s2-x.discharge,by omega,HQ.out,by go_num,p7.out,by go_num⟩,by simp only [intOf];omega⟩
    ·obtain rfl:k=c.stores.length:=by omega
     have HS:=ae hs;have HE:=ae hE
     clear hs hE;obtain ⟨PE,uM⟩: ∃PE:World,PE=wr:=⟨_,rfl⟩;subst uM;go_wp2_with fail
     clear k1 k2 k5 k6;go_loopw [5,8] (fun sv ii wr=> ∃(k:Nat) (s:Int),k≤c.aN.length∧s=rv+fl c h c.au.length-gY c c.stores.length-jr c h k∧sv= .int .i64 s∧Ext W wr∧ii= .int .i64 k) (fun _ ii _=>c.aN.length-(intOf ii).toNat)
     case atStart=>exact ⟨0,s2,Nat.zero_le _,by rw [HS.out];simp [jr],rfl,HE.out,rfl⟩
     case round=>
      clear HS HE;obtain ⟨k,s3,hk,hs,rfl,hE,rfl⟩:=hrel;obtain ⟨-,k1,k2,-,-,k5,k6,-⟩:=aq.at (HA.out.ext hE);by_cases hlt:k<c.aN.length
      ·obtain ⟨b,o,ha,c0,c1,c2,c3,c4⟩:=((dB.out.aN.ext HV.out).ext (HX.out.trans hE)).aN k hlt
       have tK:=(ky.out.tie c.aN[k] (List.getElem_mem hlt)).imp;have tL:=((dB.out.tie c.aN[k] (List.getElem_mem hlt)).2.1.ext HV.out).ext (HX.out.trans hE);have hsc:=ow c h hlt;have hrg:=Uj.out k (by omega);obtain ⟨x,eU⟩: ∃x,x=c.aN[k]:=⟨_,rfl⟩;rw [←eU]at c0 c1 c2 c3 c4 tK tL hsc;have wX:h<x.imp.length:=by have:=PD.out;omega
       have hdr:=j9 tK.2 h wX;have Mo:=tL.le;have Gs:=tL.cap
       obtain ⟨db,Ul,Gt,d0⟩:=tL.cell h wX;rw [←dM wX]at d0;obtain ⟨d,hd⟩: ∃d,d=eF x.imp h:=⟨_,rfl⟩;rw [←hd]at d0 hsc hdr;have Mp:=ae Gt;clear Gt;have Gu:=Gr.out;have xR:=iB.out c.au.length (Nat.le_refl _);have tM:=PC.out c.stores.length (Nat.le_refl _);have hw:IntKind.i64.wrap (s3-d)=s3-d:=by rw [IntKind.wrap_i64];omega
       have HQ:Hid (s3-d=rv+fl c h c.au.length-gY c c.stores.length-jr c h (k+1)):=by show _=_;rw [hsc,hs];omega
       have HE:=ae hE;have fM:(0:Int)≤(k:Int):=by omega
       have fH:(k:Int)<(c.aN.length:Int):=by omega
       have Mm:(0:Int)≤(h:Int):=by omega
       have Mn:(h:Int)<(x.imp.length:Int):=by omega
       clear hs hE tK tL hsc eU hd hrg hdr Gu wX xR tM;rw [ha]at k6;rw [Mp.out]at c2;have p7:=HE;clear ha k1 k2 k5 c0 c1 c3 c4;go_wp2_with fail
       exact ⟨⟨k+1,s3-d,by omega,HQ.out,by go_num,p7.out,by go_num⟩,by simp only [intOf];omega⟩
      ·obtain rfl:k=c.aN.length:=by omega
       have HS:=ae hs;have HE:=ae hE
       clear hs hE;go_wp2_with fail
       go_ret;exact ⟨by rw [Ml.out,←HS.out];rfl,HX.out.trans HE.out⟩
end Go.Proofs.YtkpngkdgphojlaaGreat
namespace Go.Proofs
open Go.Shelf
def Tryz.sortL_ren:Go.Shelf.Ren:=⟨fun|6=>113|15=>168|14=>167|28=>204|29=>205|20=>196|21=>197|22=>198|23=>199|24=>200|25=>201|26=>202|27=>203|46=>219|47=>220|48=>221|49=>222|50=>223|57=>234|n=>n,fun|22=>22|24=>3|25=>46|3=>3|39=>216|0=>0|53=>185|55=>95|4=>4|46=>234|45=>233|50=>171|5=>5|9=>9|66=>245|70=>249|76=>260|77=>261|n=>n,fun|n=>n⟩
theorem Tryz.sortL:Go.Proofs.SlLaysF.n6 Tryz.prog Tryz.sortL_ren:={
 mixed:=by kernel_rfl,
 f6:=⟨Tryz.f113.name,by decide,Tryz.func113.trans (congrArg some (by kernel_rfl))⟩,
 f14:=⟨Tryz.f167.name,by decide,Tryz.func167.trans (congrArg some (by kernel_rfl))⟩,
 f15:=Tryz.func168.trans (congrArg some (by kernel_rfl)),
 f20:=⟨Tryz.f196.name,by decide,Tryz.func196.trans (congrArg some (by kernel_rfl))⟩,
 f21:=⟨Tryz.f197.name,by decide,Tryz.func197.trans (congrArg some (by kernel_rfl))⟩,
 f22:=⟨Tryz.f198.name,by decide,Tryz.func198.trans (congrArg some (by kernel_rfl))⟩,
 f23:=⟨Tryz.f199.name,by decide,Tryz.func199.trans (congrArg some (by kernel_rfl))⟩,
 f24:=⟨Tryz.f200.name,by decide,Tryz.func200.trans (congrArg some (by kernel_rfl))⟩,
 f25:=⟨Tryz.f201.name,by decide,Tryz.func201.trans (congrArg some (by kernel_rfl))⟩,
 f26:=⟨Tryz.f202.name,by decide,Tryz.func202.trans (congrArg some (by kernel_rfl))⟩,
 f27:=⟨Tryz.f203.name,by decide,Tryz.func203.trans (congrArg some (by kernel_rfl))⟩,
 f28:=Tryz.func204.trans (congrArg some (by kernel_rfl)),
 f29:=Tryz.func205.trans (congrArg some (by kernel_rfl)),
 f46:=⟨Tryz.f219.name,by decide,Tryz.func219.trans (congrArg some (by kernel_rfl))⟩,
 f47:=Tryz.func220.trans (congrArg some (by kernel_rfl)),
 f48:=Tryz.func221.trans (congrArg some (by kernel_rfl)),
 f49:=⟨Tryz.f222.name,by decide,Tryz.func222.trans (congrArg some (by kernel_rfl))⟩,
 f50:=⟨Tryz.f223.name,by decide,Tryz.func223.trans (congrArg some (by kernel_rfl))⟩,
 f57:=⟨Tryz.f234.name,by decide,Tryz.func234.trans (congrArg some (by kernel_rfl))⟩,
 t0:=Tryz.underlying0,
 a0:=Tryz.isAgg0,
 z0:=Tryz.sizeOf0,
 v0:=Tryz.zeroValue0,
 t3:=Tryz.underlying3,
 a3:=Tryz.isAgg3,
 z3:=Tryz.sizeOf3,
 v3:=Tryz.zeroValue3,
 t4:=Tryz.underlying4,
 a4:=Tryz.isAgg4,
 z4:=Tryz.sizeOf4,
 v4:=Tryz.zeroValue4,
 t5:=Tryz.underlying5,
 a5:=Tryz.isAgg5,
 z5:=Tryz.sizeOf5,
 v5:=Tryz.zeroValue5,
 t9:=Tryz.underlying9,
 a9:=Tryz.isAgg9,
 z9:=Tryz.sizeOf9,
 v9:=Tryz.zeroValue9,
 t22:=Tryz.underlying22,
 a22:=Tryz.isAgg22,
 z22:=Tryz.sizeOf22,
 v22:=Tryz.zeroValue22,
 a24:=Tryz.isAgg3,
 z24:=Tryz.sizeOf3,
 t25:=Tryz.underlying46,
 a25:=Tryz.isAgg46,
 z25:=Tryz.sizeOf46,
 v25:=Tryz.zeroValue46,
 t39:=Tryz.underlying216,
 a39:=Tryz.isAgg216,
 z39:=Tryz.sizeOf216,
 v39:=Tryz.zeroValue216,
 t45:=Tryz.underlying233,
 a45:=Tryz.isAgg233,
 z45:=Tryz.sizeOf233,
 v45:=Tryz.zeroValue233,
 t46:=Tryz.underlying234,
 a46:=Tryz.isAgg234,
 z46:=Tryz.sizeOf234,
 v46:=Tryz.zeroValue234,
 t50:=Tryz.underlying171,
 a50:=Tryz.isAgg171,
 z50:=Tryz.sizeOf171,
 v50:=Tryz.zeroValue171,
 t53:=Tryz.underlying185,
 a53:=Tryz.isAgg185,
 z53:=Tryz.sizeOf185,
 v53:=Tryz.zeroValue185,
 t55:=Tryz.underlying95,
 a55:=Tryz.isAgg95,
 z55:=Tryz.sizeOf95,
 v55:=Tryz.zeroValue95,
 t66:=Tryz.underlying245,
 a66:=Tryz.isAgg245,
 z66:=Tryz.sizeOf245,
 v66:=Tryz.zeroValue245,
 t70:=Tryz.underlying249,
 a70:=Tryz.isAgg249,
 z70:=Tryz.sizeOf249,
 v70:=Tryz.zeroValue249,
 t76:=Tryz.underlying260,
 a76:=Tryz.isAgg260,
 z76:=Tryz.sizeOf260,
 v76:=Tryz.zeroValue260,
 t77:=Tryz.underlying261,
 a77:=Tryz.isAgg261,
 z77:=Tryz.sizeOf261,
 v77:=Tryz.zeroValue261}
end Go.Proofs
