/- Texts of the proof. -/
import Derived.Test.YtkpngkdgphojlaaGreatCc11
set_option linter.all false
namespace Go.Proofs.YtkpngkdgphojlaaGreat
open Go.RowKit
structure cq where
 kind:Int
 hour:Int
 ua:Option Addr
 uc:Nat
 aj:List Int
 least:Int
 unit:Int
 length:Int
def cq.cells (x:cq):List Value:= [i64 x.kind,i64 x.hour,.slice x.ua x.aj.length x.uc,i64 x.least,i64 x.unit,i64 x.length]
theorem cq.at {w:World} {E:Nat} {T:TypeId} {x:cq} (h:aG w E T x.cells):w.cell? ⟨E,0,none⟩=some (i64 x.kind)∧w.cell? ⟨E,1,none⟩=some (i64 x.hour)∧w.cell? ⟨E,2,none⟩=some (.slice x.ua x.aj.length x.uc)∧w.cell? ⟨E,3,none⟩=some (i64 x.least)∧w.cell? ⟨E,4,none⟩=some (i64 x.unit)∧w.cell? ⟨E,5,none⟩=some (i64 x.length):=
 ⟨(h.cell 0).trans rfl,(h.cell 1).trans rfl,(h.cell 2).trans rfl,(h.cell 3).trans rfl,(h.cell 4).trans rfl,(h.cell 5).trans rfl⟩
def cQ (c:aq) (x:cq):Bool:=eN c x.hour&&
 (if x.kind=0 then gR c.aj.length x.aj&&decide (1≤x.least)&&decide (x.least≤x.aj.length)&&(x.unit==0)&&(x.length==0)
  else if x.kind=1 then decide (0≤x.unit)&&decide (x.unit<c.aj.length)&&decide (0≤x.length)&&decide (x.length≤x.hour)&&decide (x.aj.length=0)&&(x.least==0)
  else false)
set_option maxHeartbeats 1000000 in
set_option maxRecDepth 100000 in
theorem DO (V:World) (c:aq) (x:cq) (h:aA V x.ua x.uc x.aj) (hn:c.aj.length≤9223372036854775807):
 Calls Tryz.prog 44 #[.agg (C8 c),.agg #[i64 x.kind,i64 x.hour,.slice x.ua x.aj.length x.uc,i64 x.least,i64 x.unit,i64 x.length]] V fun e w'=>e= .returned (.bool (cQ c x))∧Ext V w':=by
 try unfold C8
 have hle:=h.le;have di:=h.cap
 have HI:=ae h;have HF:Hid (cQ c x=(eN c x.hour&&(if x.kind=0 then gR c.aj.length x.aj&&decide (1≤x.least)&&decide (x.least≤x.aj.length)&&(x.unit==0)&&(x.length==0)else if x.kind=1 then decide (0≤x.unit)&&decide (x.unit<c.aj.length)&&decide (0≤x.length)&&decide (x.length≤x.hour)&&decide (x.aj.length=0)&&(x.least==0)else false))):=rfl;obtain ⟨fb,PS⟩: ∃fb,fb=cQ c x:=⟨_,rfl⟩;rw [←PS]at HF⊢;clear h PS;go_enter Tryz.func44,Tryz.ntmps44
 go_upto_region 1 with fail
 obtain ⟨W,hW,x0,Z0,A0,A1⟩:=fP V 32 c.cells 24 x.cells;rw [show(V.alloc (.cells (C8 c) 32)).alloc (.cells #[i64 x.kind,i64 x.hour,.slice x.ua x.aj.length x.uc,i64 x.least,i64 x.unit,i64 x.length] 24)=W from hW.symm];obtain ⟨B,hB⟩: ∃B,B=V.heap.size:=⟨_,rfl⟩;obtain ⟨X,hX⟩: ∃X,X=V.heap.size+1:=⟨_,rfl⟩;rw [←hX]at A1⊢;rw [←hB]at A0⊢;obtain ⟨k0,k1,k2,k3,k4,k5,k6,k7⟩:=aq.at A0;obtain ⟨xS,sA,sB,sD,rT,tO⟩:=cq.at A1;have HX:=ae x0;have HA:=ae A0;have HB:=ae A1
 clear hW x0 Z0 A0 A1 hB hX;go_wp2_with fail
 refine (vO W c x.hour).mono ?_;rintro e w1 ⟨rfl,xx⟩;clear k0 k1 k2 k3 k4 k5 k6 k7 xS sA sB sD rT tO;have HA:=ae (HA.out.ext xx);have HB:=ae (HB.out.ext xx);have HX:=ae (HX.out.trans xx)
 clear xx;obtain ⟨k0,k1,k2,k3,k4,k5,k6,k7⟩:=aq.at HA.out;obtain ⟨xS,sA,sB,sD,rT,tO⟩:=cq.at HB.out;rcases Bool.eq_false_or_eq_true (eN c x.hour)with th|th;rotate_left
 ·rw [th]
  have HQ:Hid (false=fb):=by
   show _=_;rw [HF.out];simp [th]
  go_wp2_with fail
  go_ret;exact ⟨by rw [←HQ.out];rfl,HX.out⟩
 rw [th];by_cases hk:x.kind=0
 ·have tk:(x.kind==0)=true:=by rw [hk];rfl
  have HK:=ae hk;clear hk;go_wp2_with fail
  refine (yU w1 c x.ua x.uc x.aj (HI.out.ext HX.out)).mono ?_;rintro e w2 ⟨rfl,xx⟩;clear k0 k1 k2 k3 k4 k5 k6 k7 xS sA sB sD rT tO;have HA:=ae (HA.out.ext xx);have HB:=ae (HB.out.ext xx);have HX:=ae (HX.out.trans xx)
  clear xx;obtain ⟨k0,k1,k2,k3,k4,k5,k6,k7⟩:=aq.at HA.out;obtain ⟨xS,sA,sB,sD,rT,tO⟩:=cq.at HB.out;rcases Bool.eq_false_or_eq_true (gR c.aj.length x.aj)with ts|ts;rotate_left
  ·rw [ts]
   have HQ:Hid (false=fb):=by
    show _=_;rw [HF.out];simp [th,HK.out,ts]
   go_wp2_with fail
   go_ret;exact ⟨by rw [←HQ.out];rfl,HX.out⟩
  rw [ts];by_cases h2:1≤x.least
  rotate_left
  ·have HQ:Hid (false=fb):=by
    show _=_;rw [HF.out];simp [th,HK.out,ts,h2]
   go_wp2_with fail
   go_ret;exact ⟨by rw [←HQ.out];rfl,HX.out⟩
  by_cases h3:x.least≤x.aj.length
  rotate_left
  ·have HQ:Hid (false=fb):=by
    show _=_;rw [HF.out];simp [th,HK.out,ts,h2,h3]
   go_wp2_with fail
   go_ret;exact ⟨by rw [←HQ.out];rfl,HX.out⟩
  by_cases h4:x.unit=0
  rotate_left
  ·have Mv:=ae h4
   have Ut:(x.unit==0)=false:=by rw [beq_eq_false_iff_ne];omega
   clear h4
   have HQ:Hid (false=fb):=by
    show _=_;rw [HF.out];simp [th,HK.out,ts,h2,h3,Mv.out]
   go_wp2_with fail
   go_ret;exact ⟨by rw [←HQ.out];rfl,HX.out⟩
  have Mv:=ae h4;have Ut:(x.unit==0)=true:=by rw [beq_iff_eq];omega
  clear h4
  have HQ:Hid ((x.length==0)=fb):=by
   show _=_;rw [HF.out];simp [th,HK.out,ts,h2,h3,Mv.out]
  go_wp2_with fail
  go_ret;exact ⟨by rw [←HQ.out];rfl,HX.out⟩
 ·have tk:(x.kind==0)=false:=by simpa using hk
  by_cases oJ:x.kind=1
  ·have Uu:(x.kind==1)=true:=by rw [oJ];rfl
   have vP:=ae oJ;clear hk oJ;by_cases h2:0≤x.unit
   rotate_left
   ·have HQ:Hid (false=fb):=by
     show _=_;rw [HF.out];simp [th,vP.out,h2]
    go_wp2_with fail
    go_ret;exact ⟨by rw [←HQ.out];rfl,HX.out⟩
   by_cases h3:x.unit<c.aj.length
   rotate_left
   ·have HQ:Hid (false=fb):=by
     show _=_;rw [HF.out];simp [th,vP.out,h2,h3]
    go_wp2_with fail
    go_ret;exact ⟨by rw [←HQ.out];rfl,HX.out⟩
   by_cases h4:0≤x.length
   rotate_left
   ·have HQ:Hid (false=fb):=by
     show _=_;rw [HF.out];simp [th,vP.out,h2,h3,h4]
    go_wp2_with fail
    go_ret;exact ⟨by rw [←HQ.out];rfl,HX.out⟩
   by_cases h5:x.length≤x.hour
   rotate_left
   ·have HQ:Hid (false=fb):=by
     show _=_;rw [HF.out];simp [th,vP.out,h2,h3,h4,h5]
    go_wp2_with fail
    go_ret;exact ⟨by rw [←HQ.out];rfl,HX.out⟩
   by_cases h6:x.aj.length=0
   rotate_left
   ·have GH:=ae h6
    have Uv:((x.aj.length:Int)==0)=false:=by rw [beq_eq_false_iff_ne];omega
    clear h6
    have HQ:Hid (false=fb):=by
     show _=_;rw [HF.out];simp [th,vP.out,h2,h3,h4,h5,GH.out]
    go_wp2_with fail
    go_ret;exact ⟨by rw [←HQ.out];rfl,HX.out⟩
   have GH:=ae h6;have Uv:((x.aj.length:Int)==0)=true:=by rw [beq_iff_eq];omega
   clear h6
   have HQ:Hid ((x.least==0)=fb):=by
    show _=_;rw [HF.out];simp [th,vP.out,h2,h3,h4,h5,GH.out]
   go_wp2_with fail
   go_ret;exact ⟨by rw [←HQ.out];rfl,HX.out⟩
  ·have Uu:(x.kind==1)=false:=by simpa using oJ
   have PT:=ae (And.intro hk oJ);clear hk oJ
   have HQ:Hid (false=fb):=by
    show _=_;rw [HF.out];simp [th,PT.out.1,PT.out.2]
   go_wp2_with fail
   go_ret;exact ⟨by rw [←HQ.out];rfl,HX.out⟩
set_option maxHeartbeats 1000000 in
set_option maxRecDepth 100000 in
theorem yV (V:World) (c:aq) (x:cq) (h:aA V x.ua x.uc x.aj) (hn:c.aj.length≤9223372036854775807):
 Calls Tryz.prog 41 #[.agg (C8 c),.agg #[i64 x.kind,i64 x.hour,.slice x.ua x.aj.length x.uc,i64 x.least,i64 x.unit,i64 x.length]] V fun e w'=>e= .returned (.bool (cQ c x))∧Ext V w':=by
 try unfold C8
 have hle:=h.le;have di:=h.cap
 have HI:=ae h;have HF:Hid (cQ c x=(eN c x.hour&&(if x.kind=0 then gR c.aj.length x.aj&&decide (1≤x.least)&&decide (x.least≤x.aj.length)&&(x.unit==0)&&(x.length==0)else if x.kind=1 then decide (0≤x.unit)&&decide (x.unit<c.aj.length)&&decide (0≤x.length)&&decide (x.length≤x.hour)&&decide (x.aj.length=0)&&(x.least==0)else false))):=rfl;obtain ⟨fb,PS⟩: ∃fb,fb=cQ c x:=⟨_,rfl⟩;rw [←PS]at HF⊢;clear h PS;go_enter Tryz.func41,Tryz.ntmps41
 go_upto_region 1 with fail
 obtain ⟨W,hW,x0,Z0,A0,A1⟩:=fP V 32 c.cells 24 x.cells;rw [show(V.alloc (.cells (C8 c) 32)).alloc (.cells #[i64 x.kind,i64 x.hour,.slice x.ua x.aj.length x.uc,i64 x.least,i64 x.unit,i64 x.length] 24)=W from hW.symm];obtain ⟨B,hB⟩: ∃B,B=V.heap.size:=⟨_,rfl⟩;obtain ⟨X,hX⟩: ∃X,X=V.heap.size+1:=⟨_,rfl⟩;rw [←hX]at A1⊢;rw [←hB]at A0⊢;obtain ⟨k0,k1,k2,k3,k4,k5,k6,k7⟩:=aq.at A0;obtain ⟨xS,sA,sB,sD,rT,tO⟩:=cq.at A1;have HX:=ae x0;have HA:=ae A0;have HB:=ae A1
 clear hW x0 Z0 A0 A1 hB hX;have GI:Hid (eN c x.hour=(decide (0≤x.hour)&&decide (x.hour<c.hours))):=rfl;by_cases g1:x.hour<0
 ·have HG:Hid (eN c x.hour=false):=by
   show _=_;rw [GI.out];simp;intro;omega
  have HQ:Hid (false=fb):=by
   show _=_;rw [HF.out];simp [HG.out]
  go_wp2_with fail
  go_ret;exact ⟨by rw [←HQ.out];rfl,HX.out⟩
 by_cases g2:c.hours≤x.hour
 ·have HG:Hid (eN c x.hour=false):=by
   show _=_;rw [GI.out];simp;intro;omega
  have HQ:Hid (false=fb):=by
   show _=_;rw [HF.out];simp [HG.out]
  go_wp2_with fail
  go_ret;exact ⟨by rw [←HQ.out];rfl,HX.out⟩
 have th:Hid (eN c x.hour=true):=by
  show _=_;rw [GI.out];simp;omega
 by_cases hk:x.kind=0
 ·have tk:(x.kind==0)=true:=by rw [hk];rfl
  have HK:=ae hk;clear hk;have Co:Hid (gR c.aj.length x.aj=(lY c.aj.length x.aj&&decide (0<x.aj.length))):=rfl;by_cases g3:0<x.aj.length
  rotate_left
  ·have ts:Hid (gR c.aj.length x.aj=false):=by
    show _=_;rw [Co.out,decide_eq_false g3,Bool.and_false]
   have X3: ¬(0:Int)<(x.aj.length:Int):=by omega
   have HQ:Hid (false=fb):=by
    show _=_;rw [HF.out];simp [th.out,HK.out,ts.out]
   go_wp2_with fail
   go_ret;exact ⟨by rw [←HQ.out];rfl,HX.out⟩
  have X3:(0:Int)<(x.aj.length:Int):=by omega
  go_wp2_with fail
  refine (Bg W x.ua x.uc x.aj (c.aj.length:Int) (HI.out.ext HX.out)).mono ?_;rintro e w2 ⟨rfl,xx⟩;clear k0 k1 k2 k3 k4 k5 k6 k7 xS sA sB sD rT tO;have HA:=ae (HA.out.ext xx);have HB:=ae (HB.out.ext xx);have HX:=ae (HX.out.trans xx)
  clear xx;obtain ⟨k0,k1,k2,k3,k4,k5,k6,k7⟩:=aq.at HA.out;obtain ⟨xS,sA,sB,sD,rT,tO⟩:=cq.at HB.out;have Cz:=ae g3;rcases Bool.eq_false_or_eq_true (lY c.aj.length x.aj)with tr|tr;rotate_left
  ·have ts:Hid (gR c.aj.length x.aj=false):=by
    show _=_;rw [Co.out,tr];rfl
   rw [tr]
   have HQ:Hid (false=fb):=by
    show _=_;rw [HF.out];simp [th.out,HK.out,ts.out]
   go_wp2_with fail
   go_ret;exact ⟨by rw [←HQ.out];rfl,HX.out⟩
  have ts:Hid (gR c.aj.length x.aj=true):=by
   show _=_;rw [Co.out,tr];simpa using Cz.out
  rw [tr];clear g3 X3 tr;by_cases h2:1≤x.least
  rotate_left
  ·have HQ:Hid (false=fb):=by
    show _=_;rw [HF.out];simp [th.out,HK.out,ts.out,h2]
   go_wp2_with fail
   go_ret;exact ⟨by rw [←HQ.out];rfl,HX.out⟩
  by_cases h3:x.least≤x.aj.length
  rotate_left
  ·have HQ:Hid (false=fb):=by
    show _=_;rw [HF.out];simp [th.out,HK.out,ts.out,h2,h3]
   go_wp2_with fail
   go_ret;exact ⟨by rw [←HQ.out];rfl,HX.out⟩
  by_cases h4:x.unit=0
  rotate_left
  ·have Mv:=ae h4
   have Ut:(x.unit==0)=false:=by rw [beq_eq_false_iff_ne];omega
   clear h4
   have HQ:Hid (false=fb):=by
    show _=_;rw [HF.out];simp [th.out,HK.out,ts.out,h2,h3,Mv.out]
   go_wp2_with fail
   go_ret;exact ⟨by rw [←HQ.out];rfl,HX.out⟩
  have Mv:=ae h4;have Ut:(x.unit==0)=true:=by rw [beq_iff_eq];omega
  clear h4
  have HQ:Hid ((x.length==0)=fb):=by
   show _=_;rw [HF.out];simp [th.out,HK.out,ts.out,h2,h3,Mv.out]
  go_wp2_with fail
  go_ret;exact ⟨by rw [←HQ.out];rfl,HX.out⟩
 ·have tk:(x.kind==0)=false:=by simpa using hk
  by_cases oJ:x.kind=1
  ·have Uu:(x.kind==1)=true:=by rw [oJ];rfl
   have vP:=ae oJ;clear hk oJ;by_cases h6:x.aj.length=0
   rotate_left
   ·have GH:=ae h6
    have Uv:((x.aj.length:Int)==0)=false:=by rw [beq_eq_false_iff_ne];omega
    clear h6
    have HQ:Hid (false=fb):=by
     show _=_;rw [HF.out];simp [th.out,vP.out,GH.out]
    go_wp2_with fail
    go_ret;exact ⟨by rw [←HQ.out];rfl,HX.out⟩
   have GH:=ae h6;have Uv:((x.aj.length:Int)==0)=true:=by rw [beq_iff_eq];omega
   clear h6;by_cases h7:x.least=0
   rotate_left
   ·have Oj:=ae h7
    have th7:(x.least==0)=false:=by rw [beq_eq_false_iff_ne];omega
    clear h7
    have HQ:Hid (false=fb):=by
     show _=_;rw [HF.out];simp [th.out,vP.out,GH.out,Oj.out]
    go_wp2_with fail
    go_ret;exact ⟨by rw [←HQ.out];rfl,HX.out⟩
   have Oj:=ae h7;have th7:(x.least==0)=true:=by rw [beq_iff_eq];omega
   clear h7;by_cases h2:0≤x.unit
   rotate_left
   ·have HQ:Hid (false=fb):=by
     show _=_;rw [HF.out];simp [th.out,vP.out,GH.out,Oj.out,h2]
    go_wp2_with fail
    go_ret;exact ⟨by rw [←HQ.out];rfl,HX.out⟩
   by_cases h3:x.unit<c.aj.length
   rotate_left
   ·have HQ:Hid (false=fb):=by
     show _=_;rw [HF.out];simp [th.out,vP.out,GH.out,Oj.out,h2,h3]
    go_wp2_with fail
    go_ret;exact ⟨by rw [←HQ.out];rfl,HX.out⟩
   by_cases h4:0≤x.length
   rotate_left
   ·have HQ:Hid (false=fb):=by
     show _=_;rw [HF.out];simp [th.out,vP.out,GH.out,Oj.out,h2,h3,h4]
    go_wp2_with fail
    go_ret;exact ⟨by rw [←HQ.out];rfl,HX.out⟩
   have HQ:Hid (decide (x.length≤x.hour)=fb):=by
    show _=_;rw [HF.out];simp [th.out,vP.out,GH.out,Oj.out,h2,h3,h4]
   go_wp2_with fail
   go_ret;exact ⟨by rw [←HQ.out];rfl,HX.out⟩
  ·have Uu:(x.kind==1)=false:=by simpa using oJ
   have PT:=ae (And.intro hk oJ);clear hk oJ
   have HQ:Hid (false=fb):=by
    show _=_;rw [HF.out];simp [th.out,PT.out.1,PT.out.2]
   go_wp2_with fail
   go_ret;exact ⟨by rw [←HQ.out];rfl,HX.out⟩
def jN (c:aq) (i:Nat):Nat×Nat:=((jJ c i).1.toNat,(jJ c i).2.toNat)
def kept (c:aq) (l:List Nat) (gone:List Int) (k:Nat):List (Nat×Nat):=((l.take k).filter fun(i:Nat)=> !hasB gone (i:Int)).map (jN c)
theorem nz (c:aq) (l:List Nat) (gone:List Int) {k:Nat} (h:k<l.length):kept c l gone (k+1)=if hasB gone (l[k]:Int)=true then kept c l gone k else kept c l gone k++ [jN c l[k]]:=by
 unfold kept;rw [List.take_succ_eq_append_getElem h,List.filter_append];cases q:hasB gone (l[k]:Int)<;>simp [q]
theorem GJ (v:Int):hasB [] v=false:=rfl
theorem yX (a b:List Int) (v:Int):hasB (a++b) v=(hasB a v||hasB b v):=by unfold hasB;rw [List.any_append]
theorem mP (l:List Nat) (out:List Int) (m:Nat): ∀N,hasB (aC (eI l out N)) (m:Int)=(decide (m<N)&&hasB out ((l.getD m 0:Nat):Int))
 |0=>by simp [eI,aC,hasB]
 |N+1=>by
  unfold eI;by_cases q:hasB out ((l.getD N 0:Nat):Int)=true
  ·rw [if_pos q]
   have h1:aC (eI l out N++ [N])=aC (eI l out N)++ [(N:Int)]:=by simp [aC]
   rw [h1,yX,mP l out m N];by_cases hm:m=N
   ·subst hm
    rw [q];simp [hasB]
   ·have h2:hasB [(N:Int)] (m:Int)=false:=by simp [hasB];omega
    have h3:decide (m<N+1)=decide (m<N):=by rw [Bool.eq_iff_iff];simp;omega
    rw [h2,h3,Bool.or_false]
  ·rw [if_neg q,mP l out m N]
   by_cases hm:m=N
   ·subst hm
    have q':hasB out ((l.getD m 0:Nat):Int)=false:=by simpa using q
    rw [q'];simp
   ·have h3:decide (m<N+1)=decide (m<N):=by rw [Bool.eq_iff_iff];simp;omega
    rw [h3]
theorem vQ (c:aq) (l:List Nat) (out:List Int): ∀m,m≤l.length→ja (l.map (jN c)) (aC (eI l out l.length)) m=kept c l out m
 |0,_=>rfl
 |m+1,h=>by
  unfold ja;rw [vQ c l out m (by omega),mP,nz c l out (show m<l.length by omega)];have h1:l.getD m 0=l[m]:=by rw [List.getD_eq_getElem?_getD,List.getElem?_eq_getElem (by omega)];rfl
  have h2:(l.map (jN c)).getD m (0,0)=jN c l[m]:=by
   rw [List.getD_eq_getElem?_getD,List.getElem?_eq_getElem (by rw [List.length_map];omega)];simp
  have h3:decide (m<l.length)=true:=by simp;omega
  rw [h1,h2,h3,Bool.true_and]
theorem GK (c:aq) (l:List Nat):kept c l [] l.length=l.map (jN c):=by
 unfold kept;rw [List.take_length,List.filter_eq_self.2 (fun i _=>by rw [GJ];rfl)]
theorem wY (c:aq) (h:Int) (x:bI):
 (((comps c.au.length (kept c (cJ c h c.lines.length) x.lines (cJ c h c.lines.length).length):Nat):Int)==((comps c.au.length (kept c (cJ c h c.lines.length) [] (cJ c h c.lines.length).length):Nat):Int))= !ji c h x:=by
 unfold ji F_ iR;obtain ⟨l,hl⟩: ∃l,l=cJ c h c.lines.length:=⟨_,rfl⟩;rw [←hl];have he:(l.map fun i=>((jJ c i).1.toNat,(jJ c i).2.toNat))=l.map (jN c):=rfl;rw [he,List.length_map,vQ c l x.lines l.length (Nat.le_refl _),GK]
 have hle:comps c.au.length (l.map (jN c))≤comps c.au.length (kept c l x.lines l.length):=by
  apply A8;intro p hp;unfold kept at hp;obtain ⟨i,hi,rfl⟩:=List.mem_map.1 hp;exact List.mem_map_of_mem (List.mem_of_mem_take (List.mem_filter.1 hi).1)
 rw [Bool.eq_iff_iff];simp only [beq_iff_eq,Bool.not_eq_true',decide_eq_false_iff_not];omega
structure eW (c:aq) (n:Nat) (l:List Nat) (gone:List Int) (k:Nat) (f:Nat→Nat):Prop where
 tells:jK n (kept c l gone k) f
 lt: ∀b,b<n→f b<n
theorem eW.zero (c:aq) (n:Nat) (l:List Nat) (gone:List Int):eW c n l gone 0 (fun b=>b):=⟨jK.nil n,fun _ h=>h⟩
theorem Mw (n:Nat):cls (fun b=>b) n=n:=by
 induction n with
 |zero=>rfl
 |succ n ih=>
  rw [o5,ih,if_pos];rw [fq];intro k hk;omega
theorem eW.same {c:aq} {n:Nat} {l:List Nat} {gone:List Int} {k:Nat} {f:Nat→Nat} (h:eW c n l gone k f) (hk:k<l.length) (hx:(jN c l[k]).1<n) (hy:(jN c l[k]).2<n) (e:f (jN c l[k]).1=f (jN c l[k]).2):eW c n l gone (k+1) f:=by
 refine ⟨?_,h.lt⟩;rw [nz c l gone hk];split
 ·exact h.tells
 ·exact h.tells.skip hx hy e
theorem eW.gone {c:aq} {n:Nat} {l:List Nat} {gone:List Int} {k:Nat} {f:Nat→Nat} (h:eW c n l gone k f) (hk:k<l.length) (e:hasB gone (l[k]:Int)=true):eW c n l gone (k+1) f:=by
 refine ⟨?_,h.lt⟩;rw [nz c l gone hk,if_pos e];exact h.tells
theorem eW.join {c:aq} {n:Nat} {l:List Nat} {gone:List Int} {k:Nat} {f:Nat→Nat} (h:eW c n l gone k f) (hk:k<l.length) (hx:(jN c l[k]).1<n) (hy:(jN c l[k]).2<n) (e:f (jN c l[k]).1≠f (jN c l[k]).2) (g:hasB gone (l[k]:Int)=false):
 eW c n l gone (k+1) (merge f (f (jN c l[k]).1) (f (jN c l[k]).2))∧cls (merge f (f (jN c l[k]).1) (f (jN c l[k]).2)) n+1=cls f n:=by
 refine ⟨⟨?_,?_⟩,jK.AZ hx hy e⟩
 ·rw [nz c l gone hk,if_neg (by rw [g];simp)]
  exact h.tells.join hx hy e
 ·intro b hb
  unfold merge;split
  ·exact h.lt _ hx
  ·exact h.lt b hb
theorem Bj {f:Nat→Nat} {x y j:Nat} {w:World} {L n:Nat} (h:iP w L (fun b=>if b<j then merge f x y b else f b) n) (e:f j=y):iP (w.setCell ⟨L,j,none⟩ (i64 (x:Int))) L (fun b=>if b<j+1 then merge f x y b else f b) n:=
 (h.set j x).congr fun b _=>by
   unfold fG;by_cases q:b=j
   ·subst q;rw [if_pos rfl,if_pos (by omega)];unfold merge;rw [if_pos e]
   ·rw [if_neg q]
    show(if b<j then merge f x y b else f b)=(if b<j+1 then merge f x y b else f b);by_cases q2:b<j
    ·rw [if_pos q2,if_pos (by omega)]
    ·rw [if_neg q2,if_neg (by omega)]
theorem Bk {f:Nat→Nat} {x y j:Nat} {w:World} {L n:Nat} (h:iP w L (fun b=>if b<j then merge f x y b else f b) n) (e:f j≠y):iP w L (fun b=>if b<j+1 then merge f x y b else f b) n:=
 h.congr fun b _=>by
  show(if b<j then merge f x y b else f b)=(if b<j+1 then merge f x y b else f b);by_cases q:b=j
  ·subst q;rw [if_neg (by omega),if_pos (by omega)];unfold merge;rw [if_neg e]
  ·by_cases q2:b<j
   ·rw [if_pos q2,if_pos (by omega)]
   ·rw [if_neg q2,if_neg (by omega)]
theorem Bl {f:Nat→Nat} {x y:Nat} {w:World} {L n:Nat} (h:iP w L (fun b=>if b<n then merge f x y b else f b) n):iP w L (merge f x y) n:=h.congr fun b hb=>by simp [hb]
set_option maxHeartbeats 2000000 in
set_option maxRecDepth 100000 in
theorem yY (V:World) (c:aq) (hc:aT V c) (hn:c.au.length≤1000000) (DM: ∀i (hi:i<c.lines.length),(0≤c.lines[i].cd∧c.lines[i].cd<c.au.length)∧(0≤c.lines[i].ie∧c.lines[i].ie<c.au.length))
 (a:Option Addr) (ca:Nat) (l:List Nat) (hl:aA V a ca (aC l)) (rO: ∀i∈l,i<c.lines.length) (b:Option Addr) (cb:Nat) (gone:List Int) (hg:aA V b cb gone):
 Calls Tryz.prog 149 #[.agg (C8 c),.slice a l.length ca,.slice b gone.length cb] V fun e w'=>e= .returned (i64 ((comps c.au.length (kept c l gone l.length):Nat):Int))∧Ext V w':=by
 try unfold C8
 have hle:=hl.le;have di:=hl.cap
 rw [aK]at hle;have EM:=hc.lines.le;have hcc:=hc.lines.cap
 rw [List.length_map]at EM;have dB:=ae hc;have HL:=ae hl;have pX:=ae rO;have HG:=ae hg;have CA:=ae DM
 clear hc hl rO hg DM;go_enter Tryz.func149,Tryz.ntmps149
 go_upto_region 1 with fail
 obtain ⟨W,hW,x0,Z0,A0⟩:=aB V 32 c.cells;rw [show V.alloc (.cells (C8 c) 32)=W from hW.symm];clear hW;have lW:=ae x0;obtain ⟨B,hB⟩: ∃B,B=V.heap.size:=⟨_,rfl⟩;rw [←hB]at A0⊢;have HA:=ae A0;obtain ⟨-,-,k2,-⟩:=aq.at A0;have kr:=ae hB;clear A0 x0 Z0 hB;go_wp2_with (at_make;refine dG _ rfl _ _ 22 rfl 3 (.int .i64 0) 8 Tryz.underlying22 Tryz.info_int rfl _ _ c.au.length rfl rfl rfl rfl (by omega) (by omega) ?_;intro w1 eE hx1 hz1)
 obtain ⟨L,hL⟩: ∃L,L=W.heap.size:=⟨_,rfl⟩;rw [←hL]at eE⊢;have uu:Hid (W.heap.size≤L):=by show _≤_;omega
 have rL:=ae (iP.zero eE.out);have eK:=ae hx1
 clear eE hx1 hz1 hL k2;go_loopw [21] (fun ii wr=> ∃k:Nat,k≤c.au.length∧iP wr L (fun b=>if b<k then b else 0) c.au.length∧Ext W wr∧ii= .int .i64 k) (fun ii _=>c.au.length-(intOf ii).toNat)
 case atStart=>exact ⟨0,Nat.zero_le _,rL.out,eK.out,rfl⟩
 case round=>
  obtain ⟨k,hk,hT,hX,rfl⟩:=hrel;clear rL eK;by_cases hlt:k<c.au.length
  ·obtain ⟨c0,f0⟩:=hT.cell k hlt
   have ku:=ae hT.next;have dC:=ae (hX.setCell (p:=⟨L,k,none⟩) uu.out (i64 (k:Int)))
   have b0:(0:Int)≤(k:Int):=by omega
   have b1:(k:Int)<(c.au.length:Int):=by omega
   clear hT hX;go_wp2_with fail
   exact ⟨⟨k+1,by omega,ku.out,dC.out,by go_num⟩,by simp only [intOf];omega⟩
  ·obtain rfl:k=c.au.length:=by omega
   have ku:=ae hT.full;have dC:=ae hX
   have Jt:=ae (Mw c.au.length);clear hT hX;go_wp2_with fail
   go_loopw [9,33] (fun cv ii wl=> ∃(i:Nat) (f:Nat→Nat) (cn:Nat),i≤l.length∧iP wl L f c.au.length∧Ext W wl∧eW c c.au.length l gone i f∧cls f c.au.length=cn∧cv= .int .i64 cn∧ii= .int .i64 i) (fun _ ii _=>l.length-(intOf ii).toNat)
   case atStart=>exact ⟨0,fun b=>b,c.au.length,Nat.zero_le _,ku.out,dC.out,eW.zero c _ l gone,Jt.out,rfl,rfl⟩
   case round=>
    obtain ⟨i,f,cn,hi,hT,hX,hP,Ah,rfl,rfl⟩:=hrel;clear ku dC Jt;by_cases hlt:i<l.length
    ·obtain ⟨lk,hlk⟩: ∃lk,lk=l[i]:=⟨_,rfl⟩
     obtain ⟨lo,ab,ha,i0⟩: ∃(ao:Nat) (ab:Nat),a=some ⟨ab,ao,none⟩∧wr.cell? ⟨ab,ao+i,none⟩=some (i64 (lk:Int)):=by
      obtain ⟨ab,ao,hab,i0⟩:=((HL.out.ext lW.out).ext hX).cell i (by rw [aK];exact hlt);have e0:(aC l)[i]'(by rw [aK];exact hlt)=((l[i]:Nat):Int):=by simp [aC]
      rw [e0,←hlk]at i0;exact ⟨ao,ab,hab,i0⟩
     have Mx:lk<c.lines.length:=by rw [hlk];exact pX.out _ (List.getElem_mem hlt)
     obtain ⟨xb,xo,Ol,-,r1,r2,-⟩:=((dB.out.ext lW.out).ext hX).lines.lines lk Mx;obtain ⟨⟨g1,g2⟩,g3,g4⟩:=CA.out lk Mx;obtain ⟨⟨p,q⟩,PU⟩: ∃pq,pq=jN c lk:=⟨_,rfl⟩
     have hp:c.lines[lk].cd=(p:Int)∧c.lines[lk].ie=(q:Int)∧p<c.au.length∧q<c.au.length:=by
      unfold jN at PU;rw [np Mx]at PU;simp only [Prod.mk.injEq]at PU;omega
     obtain ⟨X4,X5,Uw,Ux⟩:=hp;rw [X4]at r1;rw [X5]at r2;obtain ⟨t1,-⟩:=hT.cell p Uw;obtain ⟨t2,-⟩:=hT.cell q Ux;obtain ⟨x,hx⟩: ∃x,x=f p:=⟨_,rfl⟩;obtain ⟨y,hy⟩: ∃y,y=f q:=⟨_,rfl⟩;rw [←hx]at t1;rw [←hy]at t2;have My:Hid (jN c l[i]=(p,q)):=by show _=_;rw [←hlk];exact PU.symm
     have PV:Hid (x=y→eW c c.au.length l gone (i+1) f):=fun e=>hP.same hlt (by rw [My.out];exact Uw) (by rw [My.out];exact Ux) (by rw [My.out];rw [hx,hy]at e;exact e);have PW:Hid (hasB gone (lk:Int)=true→eW c c.au.length l gone (i+1) f):=fun e=>hP.gone hlt (by rw [←hlk];exact e)
     have PX:Hid (x≠y→hasB gone (lk:Int)=false→eW c c.au.length l gone (i+1) (merge f x y)∧cls (merge f x y) c.au.length+1=cls f c.au.length):=fun e g=>by
      have h5:=hP.join hlt (by rw [My.out];exact Uw) (by rw [My.out];exact Ux) (by rw [My.out];rw [hx,hy]at e;exact e) (by rw [←hlk];exact g);rw [My.out]at h5;rw [hx,hy];exact h5
     obtain ⟨-,-,-,k3,-⟩:=aq.at ((HA.out.ext hX));have xQ:=ae hT;have wR:=ae hX;have Jz:=ae Ah;have j3:=ae ha;have xU:=ae Ol
     have aaN:cn≤1000000:=by rw [←Ah];exact Nat.le_trans (Md _ _) hn
     have gO:=ae (j1 wr.drew b cb gone (lk:Int) ((HG.out.ext lW.out).ext hX.drew));have fM:(0:Int)≤(i:Int):=by omega
     have fH:(i:Int)<(l.length:Int):=by omega
     have bl0:(0:Int)≤(lk:Int):=by omega
     have bl1:(lk:Int)<(c.lines.length:Int):=by omega
     have bp0:(0:Int)≤(p:Int):=by omega
     have bp1:(p:Int)<(c.au.length:Int):=by omega
     have bq0:(0:Int)≤(q:Int):=by omega
     have bq1:(q:Int)<(c.au.length:Int):=by omega
     clear hT hX hP Ah hx hy PU hlk g1 g2 g3 g4 X4 X5 Ol ha;rw [j3.out];go_wp2_with fail
     refine ay (fun w'=>w'.cell? ⟨B,3,none⟩=some (.slice c.la c.lines.length c.lc)∧w'.cell? ⟨xb,xo+lk*12+1,none⟩=some (i64 (p:Int))∧w'.cell? ⟨xb,xo+lk*12+2,none⟩=some (i64 (q:Int))∧w'.cell? ⟨L,p,none⟩=some (i64 (x:Int))∧w'.cell? ⟨L,q,none⟩=some (i64 (y:Int))) (fun w'=>True) (fun i=>false) (by kernel_rfl) (⟨k3,r1,r2,t1,t2⟩) (trivial) (fun ar ah=> ?_);refine av 0 (.slice (some ⟨L,0,none⟩) c.au.length c.au.length) rfl ar ah ?_;simp only [sS];refine av 1 (.pointer (some ⟨B,3,none⟩)) rfl ar ah ?_;simp only [sS];refine av 2 (.slice c.la c.lines.length c.lc) rfl ar ah ?_;simp only [sS];refine av 3 (.int .i64 (lk:Int)) rfl ar ah ?_;simp only [sS];refine av 4 (.pointer (some ⟨xb,xo+lk*12,none⟩)) rfl ar ah ?_ (by rintro w ⟨e0,e1,e2,e3,e4⟩;have ha:=xU.out;go_simp);simp only [sS];refine av 5 (.pointer (some ⟨xb,xo+lk*12+1,none⟩)) rfl ar ah ?_;simp only [sS];refine av 6 (i64 (p:Int)) rfl ar ah ?_;simp only [sS];refine av 7 (.pointer (some ⟨L,p,none⟩)) rfl ar ah ?_;simp only [sS];refine av 8 (i64 (x:Int)) rfl ar ah ?_;simp only [sS];refine av 9 (.slice (some ⟨L,0,none⟩) c.au.length c.au.length) rfl ar ah ?_;simp only [sS];refine av 10 (.pointer (some ⟨B,3,none⟩)) rfl ar ah ?_;simp only [sS];refine av 11 (.slice c.la c.lines.length c.lc) rfl ar ah ?_;simp only [sS];refine av 12 (.int .i64 (lk:Int)) rfl ar ah ?_;simp only [sS];refine av 13 (.pointer (some ⟨xb,xo+lk*12,none⟩)) rfl ar ah ?_ (by rintro w ⟨e0,e1,e2,e3,e4⟩;have ha:=xU.out;go_simp);simp only [sS];refine av 14 (.pointer (some ⟨xb,xo+lk*12+2,none⟩)) rfl ar ah ?_;simp only [sS];refine av 15 (i64 (q:Int)) rfl ar ah ?_;simp only [sS];refine av 16 (.pointer (some ⟨L,q,none⟩)) rfl ar ah ?_;simp only [sS];refine av 17 (i64 (y:Int)) rfl ar ah ?_;simp only [sS];refine av 18 (i64 (x:Int)) rfl ar ah ?_;simp only [sS];refine av 19 (i64 (y:Int)) rfl ar ah ?_;simp only [sS];refine ax (by kernel_rfl) ?_ _;clear ar ah;clear i0 k3 r1 r2 t1 t2;by_cases sU:x=y
     ·have hq:((x:Int)==(y:Int))=true:=by simp;omega
      have HR:=ae (PV.out sU);clear sU;go_wp2_with fail
      exact ⟨⟨i+1,f,cn,by omega,xQ.out.ext (Ext.refl wr).drew,wR.out.drew,HR.out,Jz.out,rfl,by go_num⟩,by simp only [intOf];omega⟩
     ·have hq:((x:Int)==(y:Int))=false:=by simp;omega
      rcases Bool.eq_false_or_eq_true (hasB gone (lk:Int))with Mz|Mz
      ·have HR:=ae (PW.out Mz)
       rw [Mz]at gO;clear sU Mz;go_wp2_with fail
       refine gO.out.mono ?_;rintro e w1 ⟨rfl,eE⟩;rw [eE];clear eE
       go_wp2_with fail
       exact ⟨⟨i+1,f,cn,by omega,xQ.out.ext (Ext.refl wr).drew,wR.out.drew,HR.out,Jz.out,rfl,by go_num⟩,by simp only [intOf];omega⟩
      ·have HR:=ae (PX.out sU Mz)
       rw [Mz]at gO;obtain ⟨cm,hcm⟩: ∃cm,cm=cls (merge f x y) c.au.length:=⟨_,rfl⟩;have HCM:=ae hcm;have Uy:cm+1=cn:=by rw [hcm,←Jz.out];exact HR.out.2
       have hwr:IntKind.i64.wrap ((cn:Int)-1)=(cm:Int):=by rw [IntKind.wrap_i64];omega
       have PM:Hid (iP wr.drew L (fun b=>if b<0 then merge f x y b else f b) c.au.length):=(xQ.out.ext (Ext.refl wr).drew).congr fun b _=>by simp
       have X6:=ae wR.out.drew;clear sU Mz hcm Uy;go_wp2_with fail
       refine gO.out.mono ?_;rintro e w1 ⟨rfl,eE⟩;rw [eE];clear eE
       obtain ⟨wo,uM⟩: ∃wo:World,wo=wr:=⟨_,rfl⟩;subst uM;go_wp2_with fail
       go_loopw [67] (fun jj wl=> ∃j:Nat,j≤c.au.length∧iP wl L (fun b=>if b<j then merge f x y b else f b) c.au.length∧Ext W wl∧jj= .int .i64 j) (fun jj _=>c.au.length-(intOf jj).toNat)
       case atStart=>exact ⟨0,Nat.zero_le _,PM.out,X6.out,rfl⟩
       case round=>
        obtain ⟨j,hj,hT,hX,rfl⟩:=hrel;clear PM X6 xQ wR gO;by_cases Au:j<c.au.length
        ·obtain ⟨c0,f0⟩:=hT.cell j Au
         have ef:(if j<j then merge f x y j else f j)=f j:=by rw [if_neg (by omega)]
         rw [ef]at c0;have b0:(0:Int)≤(j:Int):=by omega
         have b1:(j:Int)<(c.au.length:Int):=by omega
         obtain ⟨z,hz⟩: ∃z,z=f j:=⟨_,rfl⟩;rw [←hz]at c0;by_cases SX:z=y
         ·have PY:((z:Int)==(y:Int))=true:=by simp;omega
          have ku:=ae (Bj hT (hz.symm.trans SX));have dC:=ae (hX.setCell (p:=⟨L,j,none⟩) (by have:=uu.out;exact this) (i64 (x:Int)))
          clear hT hX hz SX ef;go_wp2_with fail
          exact ⟨⟨j+1,by omega,ku.out,dC.out,by go_num⟩,by simp only [intOf];omega⟩
         ·have PY:((z:Int)==(y:Int))=false:=by simp;omega
          have ku:=ae (Bk hT (fun e=>SX (hz.trans e)));have dC:=ae hX
          clear hT hX hz SX ef;go_wp2_with fail
          exact ⟨⟨j+1,by omega,ku.out,dC.out,by go_num⟩,by simp only [intOf];omega⟩
        ·obtain rfl:j=c.au.length:=by omega
         have ku:=ae (Bl hT);have dC:=ae hX
         clear hT hX;go_wp2_with fail
         exact ⟨⟨i+1,merge f x y,cm,by omega,ku.out,dC.out,HR.out.1,HCM.out.symm,rfl,by go_num⟩,by simp only [intOf];omega⟩
    ·obtain rfl:i=l.length:=by omega
     have HE:=ae (hP.tells.comps);rw [Ah]at HE;have dC:=ae (lW.out.trans hX);clear hT hX hP Ah;go_wp2_with fail
     go_ret;exact ⟨by rw [←HE.out];rfl,dC.out⟩
noncomputable def St.wZ (c:aq) (h:Nat) (x:bI) (i:Int) (s:St):St:=(s.at 6 i).need (!ji c h x) h 13
noncomputable def St.JA (c:aq) (h:Nat) (s:St) (n:Nat):St:=(List.range n).foldl (fun(s:St) (i:Nat)=>match c.outs[i]? with|some x=>St.wZ c h x i s|none=>s) s
noncomputable def St.vR (c:aq) (s:St) (n:Nat):St:=(List.range n).foldl (fun s h=>St.JA c h s c.outs.length) s
noncomputable def St.nA (s:St) (c:aq):St:=St.vR c s c.hours.toNat
theorem St.GL (c:aq) (h:Nat) (s:St) (i:Nat) (hi:i<c.outs.length):St.JA c h s (i+1)=St.wZ c h c.outs[i] i (St.JA c h s i):=by
 unfold St.JA;rw [List.range_succ,List.foldl_append,List.foldl_cons,List.foldl_nil,List.getElem?_eq_getElem hi]
theorem St.tP (c:aq) (s:St) (n:Nat):St.vR c s (n+1)=St.JA c n (St.vR c s n) c.outs.length:=by
 unfold St.vR;rw [List.range_succ,List.foldl_append,List.foldl_cons,List.foldl_nil]
set_option maxHeartbeats 2000000 in
set_option maxRecDepth 100000 in
theorem DR (w0 V:World) (K:Nat) (c:aq) (s:St) (hK:w0.heap.size≤K) (hV:Ext w0 V) (hc:aT w0 c) (hl:nN c) (hh:1≤c.hours∧c.hours≤24) (DM: ∀i (hi:i<c.lines.length),(0≤c.lines[i].cd∧c.lines[i].cd<c.au.length)∧(0≤c.lines[i].ie∧c.lines[i].ie<c.au.length)) (h:cY V K c s):
 Calls Tryz.prog 85 #[.pointer (some ⟨K,0,none⟩)] V fun e' w'=>km V K c (s.nA c) e' w':=by
 have vB:=h.lt;obtain ⟨hh1,SY⟩:=hh;have hr:=hc.outs;have hle:=hr.le;have di:=hr.cap
 rw [List.length_map]at hle;have HV:=ae hV;have dB:=ae hc;have HH:=ae h;have bB:=ae hK;have kW:=ae hl;have CA:=ae DM
 unfold St.nA;obtain ⟨k0,-⟩:=cF h;clear hr h hc hV hK hl DM;go_enter Tryz.func85,Tryz.ntmps85
 go_wp2_with fail
 clear k0;go_loopw [12] (fun ii wr=> ∃h:Nat,h≤c.hours.toNat∧cY wr K c (St.vR c s h)∧ak K V wr∧ii= .int .i64 h) (fun ii _=>c.hours.toNat-(intOf ii).toNat)
 case atStart=>exact ⟨0,Nat.zero_le _,HH.out,ak.refl _ _,rfl⟩
 case round=>
  obtain ⟨h,hi,hk,hx,rfl⟩:=hrel;clear HH;by_cases hlt:h<c.hours.toNat
  ·have th:decide ((h:Int)<c.hours)=true:=by simp;omega
   have pU:=ae (St.tP c s h);generalize St.vR c s h=s0 at*;have hE:=hx.ext HV.out bB.out;obtain ⟨k0,k1,k2,k3,k4,k5,k6,k7⟩:=cF hk;have PZ:=ae (DL w0 wr c (h:Int) hE dB.out kW.out.lines);have JB:Hid (∀x,(((comps c.au.length (kept c (cJ c h c.lines.length) x.lines (cJ c h c.lines.length).length):Nat):Int)==((comps c.au.length (kept c (cJ c h c.lines.length) [] (cJ c h c.lines.length).length):Nat):Int))= !ji c h x):=fun x=>wY c (h:Int) x;have yZ:=iJ c (h:Int) c.lines.length;generalize cJ c (h:Int) c.lines.length=l at*;have nW:=ae hk;have lW:=ae hx;have KO:=ae hE
   clear hk hx hE;go_wp2_with fail
   refine PZ.out.mono ?_;rintro e W1 ⟨a,cap,rfl,hI,x1,jU⟩;have Uz:=hI.le;have X7:=hI.cap
   rw [aK]at Uz;have p7:=ae (KO.out.trans x1);have vP:=ae (nW.out.ext x1);have SZ:Hid (∀p,a=some p→p.block≠K):=fun p hp=>by have:=jU p hp;have:=nW.out.lt;omega
   have Oe:=yY W1 c (dB.out.ext p7.out) kW.out.au CA.out a cap l hI yZ none 0 [] (aA.nil W1);obtain ⟨cn,Ah⟩: ∃cn,cn=comps c.au.length (kept c l [] l.length):=⟨_,rfl⟩;rw [←Ah]at Oe;have UA:Hid (∀x,(((comps c.au.length (kept c l x.lines l.length):Nat):Int)==(cn:Int))= !ji c h x):=by rw [Ah];exact JB.out
   have PH:Hid (Calls Tryz.prog 149 #[.agg (C8 c),.slice a l.length cap,.slice none 0 0] W1 fun e w'=>e= .returned (i64 (cn:Int))∧Ext W1 w'):=Oe;have Mc:=ae hI;have eK:=ae (lW.out.trans (x1.but K));have qU:=ae yZ
   clear k0 k1 k2 k3 k4 k5 k6 k7 PZ JB hI x1 jU Oe Ah yZ nW lW KO;obtain ⟨k0,k1,k2,k3,k4,k5,k6,k7⟩:=cF vP.out;go_wp2_with fail
   refine PH.out.mono ?_;rintro e W2 ⟨rfl,x2⟩;have pS:=ae (vP.out.ext x2);have IB:=ae (Mc.out.ext x2);have dC:=ae (eK.out.trans (x2.but K))
   clear k0 k1 k2 k3 k4 k5 k6 k7 x2 vP Mc eK PH p7;obtain ⟨-,-,-,-,-,-,-,k7⟩:=cF pS.out;obtain ⟨wo,uM⟩: ∃wo:World,wo=wr:=⟨_,rfl⟩;subst uM;go_wp2_with fail
   clear k7;go_loopw [33] (fun ii wl=> ∃i:Nat,i≤c.outs.length∧cY wl K c (St.JA c h s0 i)∧ak K V wl∧aA wl a cap (aC l)∧ii= .int .i64 i) (fun ii _=>c.outs.length-(intOf ii).toNat)
   case atStart=>exact ⟨0,Nat.zero_le _,pS.out,dC.out,IB.out,rfl⟩
   case round=>
    obtain ⟨i,II,hk,hx,hI,rfl⟩:=hrel;clear pS dC IB;by_cases Jw:i<c.outs.length
    ·have hE:=hx.ext HV.out bB.out
     have P8:=ae (St.GL c h s0 i Jw);generalize St.JA c h s0 i=s1 at*;obtain ⟨b,o,ha,c0,c1,c2,c3⟩:=(dB.out.outs.ext hE).outs i Jw;have nQ:=(dB.out.out c.outs[i] (List.getElem_mem Jw)).2.1;have hsp:=UA.out c.outs[i];obtain ⟨x,eU⟩: ∃x,x=c.outs[i]:=⟨_,rfl⟩;rw [←eU]at c0 c1 c2 c3 nQ hsp P8;have w_:=ae nQ;have Cr:=ae hk;have jY:=ae hx;have S0:=ae hI;have yA:=ae hE
     have fM:(0:Int)≤(i:Int):=by omega
     have fH:(i:Int)<(c.outs.length:Int):=by omega
     obtain ⟨cx,UB⟩: ∃cx,cx=comps c.au.length (kept c l x.lines l.length):=⟨_,rfl⟩;rw [←UB]at hsp;have UC:=ae hsp
     have HPX:Hid (∀U,Ext w0 U→aA U a cap (aC l)→Calls Tryz.prog 149 #[.agg (C8 c),.slice a l.length cap,.slice x.la x.lines.length x.lc] U fun e w'=>e= .returned (i64 (cx:Int))∧Ext U w'):=fun U hU Us=>by
      rw [UB];exact yY U c (dB.out.ext hU) kW.out.au CA.out a cap l Us qU.out x.la x.lc x.lines (w_.out.ext hU)
     clear hk hx hI hE eU nQ hsp UB;rw [ha];clear ha;go_upto_region 8 with fail
     obtain ⟨W3,hW3,x3,Z3,A3⟩:=aB wr 87 x.cells;rw [show wr.alloc (.cells #[.string x.name,.slice x.la x.lines.length x.lc,.bool x.bJ,.slice x.ma x.moves.length x.mc] 87)=W3 from hW3.symm];obtain ⟨E,j5⟩: ∃E,E=wr.heap.size:=⟨_,rfl⟩;rw [←j5]at A3⊢;have dR:E≠K:=by have:=Cr.out.lt;omega
     have EK:=ae A3;have FV:=ae (Cr.out.ext x3);have nK:=ae (jY.out.trans (x3.but K));have X8:=ae (S0.out.ext x3);have IJ:=ae (yA.out.trans x3)
     clear hW3 j5 Z3 A3 x3 c0 c1 c2 c3 Cr jY S0 yA;go_wp2_with fail
     refine (wz W3 K c s1 6 i FV.out).mono ?_;rintro e W4 ⟨rfl,jX,dA⟩;have EO:=ae jX;have su:=ae (nK.out.trans dA);have UD:=ae (X8.out.fS dA SZ.out);have CB:=ae (dA.ext IJ.out bB.out)
     have e1:W4.cell? ⟨E,1,none⟩=some (.slice x.la x.lines.length x.lc):=((EK.out.but dA dR).cell 1).trans rfl;obtain ⟨k0,k1,k2,k3,k4,k5,k6,k7⟩:=cF EO.out;clear jX dA FV nK X8 IJ EK;go_wp2_with fail
     refine ay (fun w'=>w'.cell? ⟨K,0,none⟩=some (i64 c.hours)∧w'.cell? ⟨K,1,none⟩=some (.slice c.ra c.az.length c.rc)∧w'.cell? ⟨K,2,none⟩=some (.slice c.ba c.au.length c.bc)∧w'.cell? ⟨K,3,none⟩=some (.slice c.la c.lines.length c.lc)∧w'.cell? ⟨K,4,none⟩=some (.slice c.ua c.aj.length c.uc)∧w'.cell? ⟨K,5,none⟩=some (.slice c.sa c.stores.length c.sc)∧w'.cell? ⟨K,6,none⟩=some (.slice c.ta c.aN.length c.tc)∧w'.cell? ⟨K,7,none⟩=some (.slice c.oa c.outs.length c.oc)∧w'.cell? ⟨E,1,none⟩=some (.slice x.la x.lines.length x.lc)) (fun w'=>True) (fun i=>false) (by kernel_rfl) (⟨k0,k1,k2,k3,k4,k5,k6,k7,e1⟩) (trivial) (fun ar ah=> ?_);refine av 0 (.pointer (some ⟨K,0,none⟩)) rfl ar ah ?_;simp only [sS];refine av 1 (.pointer (some ⟨K,0,none⟩)) rfl ar ah ?_;simp only [sS];refine av 2 (.pointer (some ⟨K,0,none⟩)) rfl ar ah ?_;simp only [sS];refine av 3 (.pointer (some ⟨K,0,none⟩)) rfl ar ah ?_;simp only [sS];refine av 4 (.agg #[i64 c.hours,.slice c.ra c.az.length c.rc,.slice c.ba c.au.length c.bc,.slice c.la c.lines.length c.lc,.slice c.ua c.aj.length c.uc,.slice c.sa c.stores.length c.sc,.slice c.ta c.aN.length c.tc,.slice c.oa c.outs.length c.oc]) rfl ar ah ?_;simp only [sS];refine av 5 (.slice a l.length cap) rfl ar ah ?_;simp only [sS];refine av 6 (.pointer (some ⟨E,1,none⟩)) rfl ar ah ?_;simp only [sS];refine av 7 (.slice x.la x.lines.length x.lc) rfl ar ah ?_;simp only [sS];refine av 9 (i64 (cn:Int)) rfl ar ah ?_;simp only [sS];refine av 11 (i64 (h:Int)) rfl ar ah ?_;simp only [sS];refine cG 8 rfl (fun Kc hK=> ?_);go_simp;refine (HPX.out W4.drew (CB.out.trans (Ext.refl _).drew) (UD.out.ext (Ext.refl _).drew)).mono ?_;rintro e z1 ⟨rfl,xz⟩;refine hK.out _ _ (⟨ai ((Ext.refl W4).drew.trans xz) k0,ai ((Ext.refl W4).drew.trans xz) k1,ai ((Ext.refl W4).drew.trans xz) k2,ai ((Ext.refl W4).drew.trans xz) k3,ai ((Ext.refl W4).drew.trans xz) k4,ai ((Ext.refl W4).drew.trans xz) k5,ai ((Ext.refl W4).drew.trans xz) k6,ai ((Ext.refl W4).drew.trans xz) k7,ai ((Ext.refl W4).drew.trans xz) e1⟩) (trivial) (fun ar ah=> ?_);clear hK Kc;try simp only [sS]
     refine av 10 (.bool ((cx:Int)==(cn:Int))) rfl ar ah ?_;simp only [sS];refine cG 12 rfl (fun Kc hK=> ?_);go_simp;refine (bN z1 K c (s1.at 6 i) ((cx:Int)==(cn:Int)) h 13 (EO.out.ext ((Ext.refl W4).drew.trans xz))).mono ?_;rintro e W6 ⟨rfl,jF,eT⟩;refine hK.out _ _ (⟨(cF jF).1,(cF jF).2.1,(cF jF).2.2.1,(cF jF).2.2.2.1,(cF jF).2.2.2.2.1,(cF jF).2.2.2.2.2.1,(cF jF).2.2.2.2.2.2.1,(cF jF).2.2.2.2.2.2.2,aR (ai ((Ext.refl W4).drew.trans xz) e1) eT dR⟩) (trivial) (fun ar ah=> ?_);clear hK Kc;try simp only [sS]
     refine ax (by kernel_rfl) ?_ _;clear ar ah;have j6:ak K W4 W6:=(((Ext.refl W4).drew.trans xz).but K).trans eT;have qd:cY W6 K c ((s1.at 6 i).need (!ji c h x) h 13):=by rw [←UC.out];exact jF
     have HR:=ae (And.intro qd (And.intro (su.out.trans j6) (UD.out.fS j6 SZ.out)));clear jF eT j6 qd xz e1 k0 k1 k2 k3 k4 k5 k6 k7 EO su UD CB;go_wp2_with fail
     exact ⟨⟨i+1,by omega,by rw [P8.out];exact HR.out.1,HR.out.2.1,HR.out.2.2,by go_num⟩,by simp only [intOf];omega⟩
    ·obtain rfl:i=c.outs.length:=by omega
     rw [←pU.out]at hk;have HR:=ae (And.intro hk hx);clear hk hx hI;go_wp2_with fail
     exact ⟨⟨h+1,by omega,HR.out.1,HR.out.2,by go_num⟩,by simp only [intOf];omega⟩
  ·obtain rfl:h=c.hours.toNat:=by omega
   have th:decide (((c.hours.toNat:Nat):Int)<c.hours)=false:=by simp;omega
   have HR:=ae (And.intro hk hx);clear hk hx;go_wp2_with fail
   exact bodyPost_end (v:= .tuple #[]) (by simp [results,Tryz.results85,go_sem]) rfl ⟨rfl,HR.out.1,HR.out.2⟩
set_option maxHeartbeats 2000000 in
set_option maxRecDepth 100000 in
theorem DT (w0 V:World) (K:Nat) (c:aq) (s:St) (hK:w0.heap.size≤K) (hV:Ext w0 V) (hc:aT w0 c) (hn:c.outs.length≤1000000) (h:cY V K c s):
 Calls Tryz.prog 84 #[.pointer (some ⟨K,0,none⟩)] V fun e' w'=>km V K c (s.outs c) e' w':=by
 have vB:=h.lt;have hr:=hc.outs;have hle:=hr.le;have di:=hr.cap
 rw [List.length_map]at hle;have hen: ∀args w,(callFunc 145 args).run Tryz.prog w= .ok (.enter 145 args) w:=enters_of Tryz.func145 (by kernel_rfl) rfl;have Dm:=ae hen;have HV:=ae hV;have dB:=ae hc;have HH:=ae h;have bB:=ae hK
 unfold St.outs;clear hr h hc hV hen hK;go_enter Tryz.func84,Tryz.ntmps84
 go_upto_region 1 with fail
 obtain ⟨W,hW,x0,Z0,A0⟩:=aB V 141 [.pointer (some ⟨K,0,none⟩)];rw [show V.alloc (.cells #[.pointer (some ⟨K,0,none⟩)] 141)=W from hW.symm];clear hW;obtain ⟨B,hB⟩: ∃B,B=V.heap.size:=⟨_,rfl⟩;rw [←hB]at A0⊢;have bL:B≠K:=by omega
 have kb:W.cell? ⟨B,0,none⟩=some (.pointer (some ⟨K,0,none⟩)):=(A0.cell 0).trans rfl;have tj:=HH.out.ext x0;obtain ⟨k0,k1,k2,k3,k4,k5,k6,k7⟩:=cF tj;have ju:=ae A0;have mz:=ae tj;have X0:=ae (x0.but K)
 have kr:=ae hB;clear A0 tj Z0 x0 hB HH;go_wp2_with fail
 clear kb k0 k1 k2 k3 k4 k5 k6 k7;go_loopw [12] (fun ii wr=> ∃i:Nat,i≤c.outs.length∧cY wr K c (St.gP c s i)∧ak K V wr∧aG wr B 141 [.pointer (some ⟨K,0,none⟩)]∧ii= .int .i64 i) (fun ii _=>c.outs.length-(intOf ii).toNat)
 case atStart=>exact ⟨0,Nat.zero_le _,mz.out,X0.out,ju.out,rfl⟩
 case round=>
  obtain ⟨i,hi,hk,hx,hA,rfl⟩:=hrel;clear ju mz X0;by_cases hlt:i<c.outs.length
  ·have hE:=hx.ext HV.out bB.out
   have pU:=ae (St.yN c s i hlt);obtain ⟨b,o,ha,c0,c1,c2,c3⟩:=(dB.out.outs.ext hE).outs i hlt;have aP:=dB.out.out c.outs[i] (List.getElem_mem hlt);generalize St.gP c s i=s0 at*;obtain ⟨prev,iG⟩: ∃prev,prev=(c.outs.take i).map bI.name:=⟨_,rfl⟩;rw [←iG]at pU;have gW:prev.length=i:=by subst iG;simp;omega
   have iY: ∀j (hj:j<prev.length),∃h:j<c.outs.length,prev[j]=c.outs[j].name:=fun j hj=>⟨by omega,by subst iG;simp⟩;obtain ⟨x,eU⟩: ∃x,x=c.outs[i]:=⟨_,rfl⟩;rw [←eU]at c0 c1 c2 c3 aP pU;have nL:=ae aP;have xO:=ae iY;have sq:=ae gW
   have nW:=ae hk;have HX:=ae hx;have HE:=ae hE;have HA:=ae hA
   have kb:wr.cell? ⟨B,0,none⟩=some (.pointer (some ⟨K,0,none⟩)):=(hA.cell 0).trans rfl;have fM:(0:Int)≤(i:Int):=by omega
   have fH:(i:Int)<(c.outs.length:Int):=by omega
   clear aP iY gW iG eU hk hx hE hA;rw [ha];go_upto_region 4 with fail
   obtain ⟨W1,hW1,x1,Z1,A1⟩:=aB wr 87 x.cells;rw [show wr.alloc (.cells #[.string x.name,.slice x.la x.lines.length x.lc,.bool x.bJ,.slice x.ma x.moves.length x.mc] 87)=W1 from hW1.symm];clear hW1 c0 c1 c2 c3;obtain ⟨E,j5⟩: ∃E,E=wr.heap.size:=⟨_,rfl⟩;rw [←j5]at A1⊢;have dR:E≠K:=by have:=nW.out.lt;omega
   have sx:=nW.out.ext x1;have bt:=ae A1;have dg:=ae (HA.out.ext x1);have nM:ak K V W1:=HX.out.trans (x1.but K);have eP:Ext w0 W1:=HE.out.trans x1;clear j5 A1 Z1 x1 nW HA kb;have kb:=dg.out.cl 0 (.pointer (some ⟨K,0,none⟩)) rfl;obtain ⟨c0,c1,c2,c3⟩:=bI.at bt.out;go_wp2_with fail
   refine (wz W1 K c s0 6 i sx).mono ?_;rintro e W2 ⟨rfl,ni,hx1⟩;obtain ⟨s1,hs1⟩: ∃s',s'=(s0.at 6 i):=⟨_,rfl⟩;rw [←hs1]at ni;have oX:=ae hs1;clear hs1;clear kb c0 c1 c2 c3;have bt:=ae (bt.out.but hx1 dR);have dg:=ae (dg.out.but hx1 bL)
   have pV:ak K V W2:=nM.trans hx1;have eP:Ext w0 W2:=hx1.ext eP bB.out;clear hx1 nM sx;have kb:=dg.out.cl 0 (.pointer (some ⟨K,0,none⟩)) rfl;obtain ⟨c0,c1,c2,c3⟩:=bI.at bt.out
   have jW:s1.err=0→s1.idx=(prev.length:Int):=fun h0=>by
    rw [sq.out];rw [oX.out]at h0⊢;unfold St.at at h0⊢;split
    ·rfl
    ·rename_i hne;rw [if_neg hne]at h0;exact absurd h0 hne
   have HN:=ae (p9 W2 K c s1 x.name nL.out.1 prev 145 B jW (by rw [sq.out];omega) Dm.out (fun V' s' j hj lL FL=>by
    obtain ⟨hj',ej⟩:=xO.out j hj;rw [ej];exact I8 w0 V' K B c s' j bB.out (lL.ext eP bB.out) dB.out FL (aR ((dg.out.cell 0).trans rfl) lL bL) hj') ni)
   clear jW;go_wp2_with fail
   refine HN.out.mono ?_;rintro e W3 ⟨rfl,hK2,hx2⟩;obtain ⟨s2,hs2⟩: ∃s',s'=(s1.name x.name prev):=⟨_,rfl⟩;rw [←hs2]at hK2;have nX:=ae hs2;clear hs2;clear kb c0 c1 c2 c3;have bt:=ae (bt.out.but hx2 dR);have dg:=ae (dg.out.but hx2 bL)
   have qQ:ak K V W3:=pV.trans hx2;have eP:Ext w0 W3:=hx2.ext eP bB.out;clear hx2 pV ni;obtain ⟨s3,hs3⟩: ∃s',s'=s2.need (decide (x.lines.length=1)||decide (x.lines.length=2)) 1 4:=⟨_,rfl⟩;have Ad:=ae hs3;have pS:=ae hK2;have jY:=ae qQ;have bw:=ae eP
   have rP:Hid (c.aj.length≤9223372036854775807):=by
    show _≤_;have h1:=dB.out.aj.le;have h2:=dB.out.aj.cap;rw [List.length_map]at h1;omega
   have pX:Hid (c.lines.length≤9223372036854775807):=by
    show _≤_;have h1:=dB.out.lines.le;have h2:=dB.out.lines.cap;rw [List.length_map]at h1;omega
   clear hs3 hK2 qQ eP;go_upto_region 6 with fail
   go_cut [] (fun wx=>cY wx K c s3∧ak K W3 wx∧aG wx E 87 x.cells∧aG wx B 141 [.pointer (some ⟨K,0,none⟩)])
   case first=>
    as_aux_lemma=>
     have kb:=dg.out.cl 0 (.pointer (some ⟨K,0,none⟩)) rfl;obtain ⟨c0,c1,c2,c3⟩:=bI.at bt.out
     have Ph:Hid (x.lines.length≤9223372036854775807):=by
      show _≤_;have h1:=nL.out.2.1.le;have h2:=nL.out.2.1.cap;omega
     have HN:Hid (∀ok,ok=(decide (x.lines.length=1)||decide (x.lines.length=2))→Calls Tryz.prog 134 #[.pointer (some ⟨K,0,none⟩),.bool ok,i64 1,i64 4] W3 fun e' w'=>km W3 K c s3 e' w'):=fun ok eR=>by
      have h5:=bN W3 K c s2 ok 1 4 pS.out;rw [eR,←Ad.out]at h5;rw [eR];exact h5
     by_cases q:x.lines.length=1
     ·have t:((x.lines.length:Int)==1)=true:=by rw [q];rfl
      have HQ:Hid (true=(decide (x.lines.length=1)||decide (x.lines.length=2))):=by show _=_;rw [q];simp
      clear q;go_wp2_with fail
      refine (HN.out true HQ.out).mono ?_;rintro e w2 ⟨rfl,hk,hx⟩;have HR:=ae (And.intro hk (And.intro hx (And.intro (bt.out.but hx dR) (dg.out.but hx bL))));clear hk hx c0 c1 c2 c3 t kb;go_wp2_with fail
      go_meet
      exact HR.out
     ·have t:((x.lines.length:Int)==1)=false:=by rw [beq_eq_false_iff_ne];omega
      have HQ:Hid (((x.lines.length:Int)==2)=(decide (x.lines.length=1)||decide (x.lines.length=2))):=by
       show _=_;rw [decide_eq_false q,Bool.false_or,Bool.eq_iff_iff,beq_iff_eq,decide_eq_true_eq];omega
      clear q;go_wp2_with fail
      refine (HN.out ((x.lines.length:Int)==2) HQ.out).mono ?_;rintro e w2 ⟨rfl,hk,hx⟩;have HR:=ae (And.intro hk (And.intro hx (And.intro (bt.out.but hx dR) (dg.out.but hx bL))));clear hk hx c0 c1 c2 c3 t kb;go_wp2_with fail
      go_meet
      exact HR.out
   case rest=>
    obtain ⟨hk,hx,X9,aM⟩:=hcut;generalize wc=W4 at*;have Cr:=ae hk;have bt:=ae X9;have dg:=ae aM;have nK:=ae (jY.out.trans hx);have aaQ:=ae (hx.ext bw.out bB.out)
    clear hk hx X9 aM jY pS;obtain ⟨-,-,-,Pc,-⟩:=mq Cr.out;have kb:=dg.out.cl 0 (.pointer (some ⟨K,0,none⟩)) rfl;obtain ⟨c0,c1,c2,c3⟩:=bI.at bt.out;by_cases h0:s3.err=0
    rotate_left
    ·have t1:(s3.err !=0)=true:=by simpa using h0
     have h1:St.gP c s (i+1)=s3:=by
      rw [pU.out];unfold St.j7
      rw [←oX.out,←nX.out,←Ad.out,if_pos h0]
     have h2:St.gP c s c.outs.length=s3:=by
      rw [St.Ba c s (i+1) c.outs.length (by omega) (by rw [h1];exact h0),h1]
     have HR:Hid (cY W4 K c (St.gP c s c.outs.length)):=by show cY _ _ _ _;rw [h2];exact Cr.out
     clear h0 h1 h2;go_wp2_with fail
     exact bodyPost_ret (v:= .tuple #[]) (by simp [results,Tryz.results84,go_sem]) rfl ⟨rfl,HR.out,nK.out⟩
    have t1:(s3.err !=0)=false:=by simpa using h0
    have uQ:Hid (St.gP c s (i+1)=((s3.wT c.lines.length 1 x.lines).need (gG x.lines) 1 11).moves c x):=by
     show _=_;rw [pU.out];unfold St.j7
     rw [←oX.out,←nX.out,←Ad.out,if_neg (fun e=>e h0)]
    have aaR:=nL.out.2.1.le;have X_:=nL.out.2.1.cap
    clear h0 pU oX nX Ad;obtain ⟨wo,uM⟩: ∃wo:World,wo=wr:=⟨_,rfl⟩;subst uM;go_wp2_with fail
    clear kb c0 c1 c2 c3 Pc t1;go_loopw [45] (fun jj wl=> ∃j:Nat,j≤x.lines.length∧cY wl K c (s3.wT c.lines.length 1 (x.lines.take j))∧ak K V wl∧aG wl E 87 x.cells∧aG wl B 141 [.pointer (some ⟨K,0,none⟩)]∧jj= .int .i64 j) (fun jj _=>x.lines.length-(intOf jj).toNat)
    case atStart=>exact ⟨0,Nat.zero_le _,Cr.out,nK.out,bt.out,dg.out,rfl⟩
    case round=>
     obtain ⟨j,hj,hk,hx,hA,hB,rfl⟩:=hrel;clear Cr nK bt dg;by_cases Au:j<x.lines.length
     ·have hE:=hx.ext HV.out bB.out
      obtain ⟨lb,lo,hla,cl⟩:=(nL.out.2.1.ext hE).cell j Au;have HT:=ae (St.Gd s3 (c.lines.length:Int) 1 x.lines j Au);generalize s3.wT (c.lines.length:Int) 1 (x.lines.take j)=s4 at*;obtain ⟨z,hz⟩: ∃z,z=x.lines[j]:=⟨_,rfl⟩;rw [←hz]at cl HT;have FV:=ae hk;have nK:=ae hx;have vI:=ae hA;have MA:=ae hB
      have Lt:(0:Int)≤(j:Int):=by omega
      have Lu:(j:Int)<(x.lines.length:Int):=by omega
      have kb:wr.cell? ⟨B,0,none⟩=some (.pointer (some ⟨K,0,none⟩)):=(hB.cell 0).trans rfl;obtain ⟨-,-,-,k3,-⟩:=cF hk;have rO:=pX.out;clear hk hx hA hB hE hz;rw [hla];rcases Bool.eq_false_or_eq_true (decide (0≤z))with hp|hp
      ·go_wp2_with fail
       refine ay (fun w'=>w'.cell? ⟨B,0,none⟩=some (.pointer (some ⟨K,0,none⟩))∧w'.cell? ⟨K,3,none⟩=some (.slice c.la c.lines.length c.lc)) (fun w'=>True) (fun i=>false) (by kernel_rfl) (⟨kb,k3⟩) (trivial) (fun ar ah=> ?_);refine av 0 (.pointer (some ⟨K,0,none⟩)) rfl ar ah ?_;simp only [sS];refine av 1 (i64 z) rfl ar ah ?_;simp only [sS];refine av 2 (.bool true) rfl ar ah ?_;simp only [sS];refine av 3 (.bool true) rfl ar ah ?_;simp only [sS];refine av 4 (i64 z) rfl ar ah ?_;simp only [sS];refine av 5 (.pointer (some ⟨K,0,none⟩)) rfl ar ah ?_;simp only [sS];refine av 6 (.pointer (some ⟨K,0,none⟩)) rfl ar ah ?_;simp only [sS];refine av 7 (.pointer (some ⟨K,0,none⟩)) rfl ar ah ?_;simp only [sS];refine av 8 (.pointer (some ⟨K,3,none⟩)) rfl ar ah ?_;simp only [sS];refine av 9 (.slice c.la c.lines.length c.lc) rfl ar ah ?_;simp only [sS];refine av 10 (.int .i64 (c.lines.length:Int)) rfl ar ah ?_;simp only [sS];refine av 11 (.bool (decide (z<(c.lines.length:Int)))) rfl ar ah ?_;simp only [sS];refine av 12 (.bool (decide (z<(c.lines.length:Int)))) rfl ar ah ?_;simp only [sS];refine cG 13 rfl (fun Kc hK=> ?_);go_simp;refine (bN wr.drew K c s4 (decide (z<(c.lines.length:Int))) 1 12 (FV.out.ext (Ext.refl _).drew)).mono ?_;rintro e W5 ⟨rfl,jX,dA⟩;refine hK.out _ _ (⟨aR (ai (Ext.refl wr).drew kb) dA bL,(cF jX).2.2.2.1⟩) (trivial) (fun ar ah=> ?_);clear hK Kc;try simp only [sS]
       refine ax (by kernel_rfl) ?_ _;clear ar ah;have jF:cY W5 K c (s4.need (decide (0≤z)&&decide (z<(c.lines.length:Int))) 1 12):=by rw [hp];simpa using jX
       have eT:ak K wr W5:=((Ext.refl wr).drew.but K).trans dA;have HR:=ae (And.intro jF (And.intro (nK.out.trans eT) (And.intro (vI.out.but eT dR) (MA.out.but eT bL))));clear jX dA jF eT hp rO k3 kb;go_wp2_with fail
       exact ⟨⟨j+1,by omega,by rw [HT.out];exact HR.out.1,HR.out.2.1,HR.out.2.2.1,HR.out.2.2.2,by go_num⟩,by simp only [intOf];omega⟩
      ·go_wp2_with fail
       refine ay (fun w'=>w'.cell? ⟨B,0,none⟩=some (.pointer (some ⟨K,0,none⟩))∧w'.cell? ⟨K,3,none⟩=some (.slice c.la c.lines.length c.lc)) (fun w'=>True) (fun i=>false) (by kernel_rfl) (⟨kb,k3⟩) (trivial) (fun ar ah=> ?_);refine av 0 (.pointer (some ⟨K,0,none⟩)) rfl ar ah ?_;simp only [sS];refine av 1 (i64 z) rfl ar ah ?_;simp only [sS];refine av 2 (.bool false) rfl ar ah ?_;simp only [sS];refine av 3 (.bool false) rfl ar ah ?_;simp only [sS];refine cA 4 rfl ar ah ?_;simp only [sS];refine cA 5 rfl ar ah ?_;simp only [sS];refine cA 6 rfl ar ah ?_;simp only [sS];refine cA 7 rfl ar ah ?_;simp only [sS];refine cA 8 rfl ar ah ?_;simp only [sS];refine cA 9 rfl ar ah ?_;simp only [sS];refine cA 10 rfl ar ah ?_;simp only [sS];refine cA 11 rfl ar ah ?_;simp only [sS];refine av 12 (.bool false) rfl ar ah ?_;simp only [sS];refine cG 13 rfl (fun Kc hK=> ?_);go_simp;refine (bN wr.drew K c s4 (false) 1 12 (FV.out.ext (Ext.refl _).drew)).mono ?_;rintro e W5 ⟨rfl,jX,dA⟩;refine hK.out _ _ (⟨aR (ai (Ext.refl wr).drew kb) dA bL,(cF jX).2.2.2.1⟩) (trivial) (fun ar ah=> ?_);clear hK Kc;try simp only [sS]
       refine ax (by kernel_rfl) ?_ _;clear ar ah;have jF:cY W5 K c (s4.need (decide (0≤z)&&decide (z<(c.lines.length:Int))) 1 12):=by rw [hp];simpa using jX
       have eT:ak K wr W5:=((Ext.refl wr).drew.but K).trans dA;have HR:=ae (And.intro jF (And.intro (nK.out.trans eT) (And.intro (vI.out.but eT dR) (MA.out.but eT bL))));clear jX dA jF eT hp rO k3 kb;go_wp2_with fail
       exact ⟨⟨j+1,by omega,by rw [HT.out];exact HR.out.1,HR.out.2.1,HR.out.2.2.1,HR.out.2.2.2,by go_num⟩,by simp only [intOf];omega⟩
     ·obtain rfl:j=x.lines.length:=by omega
      rw [List.take_length]at hk;obtain ⟨s4,nj⟩: ∃s',s'=s3.wT (c.lines.length:Int) 1 x.lines:=⟨_,rfl⟩;rw [←nj]at hk;have Bn:=uQ.out;rw [←nj]at Bn;have uQ:=ae Bn;have FV:=ae hk;have nK:=ae hx;have vI:=ae hA;have MA:=ae hB
      have IJ:=ae (hx.ext HV.out bB.out);have kb:wr.cell? ⟨B,0,none⟩=some (.pointer (some ⟨K,0,none⟩)):=(hB.cell 0).trans rfl;have e1:wr.cell? ⟨E,1,none⟩=some (.slice x.la x.lines.length x.lc):=(hA.cell 1).trans rfl;clear hk hx hA hB nj Bn;go_wp2_with fail
      refine ay (fun w'=>w'.cell? ⟨B,0,none⟩=some (.pointer (some ⟨K,0,none⟩))∧w'.cell? ⟨E,1,none⟩=some (.slice x.la x.lines.length x.lc)) (fun w'=>True) (fun i=>false) (by kernel_rfl) (⟨kb,e1⟩) (trivial) (fun ar ah=> ?_);refine av 0 (.pointer (some ⟨K,0,none⟩)) rfl ar ah ?_;simp only [sS];refine av 1 (.pointer (some ⟨E,1,none⟩)) rfl ar ah ?_;simp only [sS];refine av 2 (.slice x.la x.lines.length x.lc) rfl ar ah ?_;simp only [sS];refine cG 3 rfl (fun Kc hK=> ?_);go_simp;refine (lh wr.drew x.la x.lc x.lines (nL.out.2.1.ext (IJ.out.trans (Ext.refl _).drew))).mono ?_;rintro e z1 ⟨rfl,xz⟩;refine hK.out _ _ (⟨ai ((Ext.refl wr).drew.trans xz) kb,ai ((Ext.refl wr).drew.trans xz) e1⟩) (trivial) (fun ar ah=> ?_);clear hK Kc;try simp only [sS]
      refine cG 4 rfl (fun Kc hK=> ?_);go_simp;refine (bN z1 K c s4 (gG x.lines) 1 11 (FV.out.ext ((Ext.refl wr).drew.trans xz))).mono ?_;rintro e W5 ⟨rfl,jX,dA⟩;refine hK.out _ _ (⟨aR (ai ((Ext.refl wr).drew.trans xz) kb) dA bL,aR (ai ((Ext.refl wr).drew.trans xz) e1) dA dR⟩) (trivial) (fun ar ah=> ?_);clear hK Kc;try simp only [sS]
      refine ax (by kernel_rfl) ?_ _;clear ar ah kb e1;obtain ⟨s5,hs5⟩: ∃s',s'=s4.need (gG x.lines) 1 11:=⟨_,rfl⟩;rw [←hs5]at jX;have Bn:=uQ.out;rw [←hs5]at Bn;have uQ:=ae Bn;have eT:ak K wr W5:=(((Ext.refl wr).drew.trans xz).but K).trans dA;have KZ:=ae (vI.out.but eT dR);have Ya:=ae (MA.out.but eT bL)
      have su:=ae (nK.out.trans eT);have CB:=ae (eT.ext IJ.out bB.out)
      have SP:=ae (Jn w0 W5 K c s5 x bB.out CB.out rP.out nL.out.2.2.1 nL.out.2.2.2 jX);have kb:=Ya.out.cl 0 (.pointer (some ⟨K,0,none⟩)) rfl;obtain ⟨c0,c1,c2,c3⟩:=bI.at KZ.out;clear hs5 Bn dA eT xz jX;go_wp2_with fail
      refine SP.out.mono ?_;rintro e W6 ⟨rfl,jF,eT⟩;have HR:=ae (And.intro jF (And.intro (su.out.trans eT) (Ya.out.but eT bL)));clear jF eT kb c0 c1 c2 c3;go_wp2_with fail
      exact ⟨⟨i+1,by omega,by rw [uQ.out];exact HR.out.1,HR.out.2.1,HR.out.2.2,by go_num⟩,by simp only [intOf];omega⟩
  ·obtain rfl:i=c.outs.length:=by omega
   go_wp2_with fail
   exact bodyPost_end (v:= .tuple #[]) (by simp [results,Tryz.results84,go_sem]) rfl ⟨rfl,hk,hx⟩
end Go.Proofs.YtkpngkdgphojlaaGreat
