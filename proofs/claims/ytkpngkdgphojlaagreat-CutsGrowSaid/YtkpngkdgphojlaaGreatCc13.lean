/- Texts of the proof. -/
import Derived.Test.YtkpngkdgphojlaaGreatCc12
set_option linter.all false
namespace Go.Proofs.YtkpngkdgphojlaaGreat
open Go.RowKit
theorem Tryz.info_bool:(Tryz.prog.info? 4).map (fun i=>(i.zero,i.size,i.bytes))=some (some (.bool false),1,1):=by kernel_rfl
def nP (w:World) (B:Nat) (f:Nat→Bool) (n:Nat):Prop:=aG w B 4 ((List.range n).map fun b=> .bool (f b))
theorem nP.cell {w:World} {B:Nat} {f:Nat→Bool} {n:Nat} (h:nP w B f n) (k:Nat) (hk:k<n):w.cell? ⟨B,k,none⟩=some (.bool (f k))∧w.frozen? ⟨B,k,none⟩=false:=
 ⟨by rw [aG.cell h k];simp [hk],aG.frozen h k⟩
theorem nP.ext {w w':World} {B:Nat} {f:Nat→Bool} {n:Nat} (h:nP w B f n) (e:Ext w w'):nP w' B f n:=aG.ext h e
theorem nP.set {w:World} {B:Nat} {f:Nat→Bool} {n:Nat} (h:nP w B f n) (k:Nat):nP (w.setCell ⟨B,k,none⟩ (.bool true)) B (fun b=>f b||b==k) n:=by
 unfold nP at*;have h5:=aG.set h k (.bool true)
 have:((List.range n).map fun b=>Value.bool (f b)).set k (.bool true)=(List.range n).map fun b=> .bool (f b||b==k):=by
  apply List.ext_getElem
  ·simp
  ·intro i h1 h2
   rw [List.getElem_set];simp only [List.getElem_map,List.getElem_range];by_cases hik:k=i
   ·subst hik;simp
   ·have:(i==k)=false:=by simp;omega
    rw [if_neg hik,this,Bool.or_false]
 rw [this]at h5;exact h5
theorem nP.zero {w:World} {B:Nat} {n:Nat} (h:aG w B 4 (List.replicate n (.bool false))):nP w B (fun _=>false) n:=by
 unfold nP
 have:((List.range n).map fun _=>Value.bool false)=List.replicate n (.bool false):=by
  apply List.ext_getElem
  ·simp
  ·intro i h1 h2;simp
 rw [this];exact h
def fO (c:aq) (h:Nat) (us:List Nat) (t:Nat→Bool) (i:Nat) (b:Int):Prop:=
 (b= -1∧ ∀y∈us.take i,t y=true)∨ ∃x:Nat,b=(x:Int)∧x∈us.take i∧t x=false∧ ∀y∈us.take i,t y=false→bC c h y≤bC c h x
theorem fO.zero (c:aq) (h:Nat) (us:List Nat) (t:Nat→Bool):fO c h us t 0 (-1):= .inl ⟨rfl,fun y hy=>by simp at hy⟩
theorem fO.taken {c:aq} {h:Nat} {us:List Nat} {t:Nat→Bool} {i:Nat} {b:Int} (H:fO c h us t i b) (hi:i<us.length) (ht:t us[i]=true):fO c h us t (i+1) b:=by
 unfold fO at*;rw [List.take_succ_eq_append_getElem hi];rcases H with⟨h1,h2⟩|⟨x,h1,h2,h3,h4⟩
 ·refine .inl ⟨h1,fun y hy=> ?_⟩
  rcases List.mem_append.1 hy with e|e
  ·exact h2 y e
  ·rw [List.mem_singleton]at e;rw [e];exact ht
 ·refine .inr ⟨x,h1,List.mem_append_left _ h2,h3,fun y hy Cy=> ?_⟩
  rcases List.mem_append.1 hy with e|e
  ·exact h4 y e Cy
  ·rw [List.mem_singleton]at e;rw [e,ht]at Cy;cases Cy
theorem fO.first {c:aq} {h:Nat} {us:List Nat} {t:Nat→Bool} {i:Nat} (H:fO c h us t i (-1)) (hi:i<us.length) (ht:t us[i]=false):fO c h us t (i+1) (us[i]:Int):=by
 unfold fO at*;rw [List.take_succ_eq_append_getElem hi];rcases H with⟨h1,h2⟩|⟨x,h1,h2,h3,h4⟩
 ·refine .inr ⟨us[i],rfl,List.mem_append_right _ (List.mem_singleton.2 rfl),ht,fun y hy Cy=> ?_⟩
  rcases List.mem_append.1 hy with e|e
  ·rw [h2 y e]at Cy;cases Cy
  ·rw [List.mem_singleton]at e;rw [e];exact Int.le_refl _
 ·omega
theorem fO.next {c:aq} {h:Nat} {us:List Nat} {t:Nat→Bool} {i x:Nat} (H:fO c h us t i (x:Int)) (hi:i<us.length) (ht:t us[i]=false) (b:Bool) (hb:b=decide (bC c h x<bC c h us[i])):fO c h us t (i+1) (if b=true then(us[i]:Int)else(x:Int)):=by
 unfold fO at*;rw [List.take_succ_eq_append_getElem hi];rcases H with⟨h1,h2⟩|⟨x',h1,h2,h3,h4⟩
 ·omega
 ·obtain rfl:x=x':=by omega
  by_cases q:bC c h x<bC c h us[i]
  ·have hbt:b=true:=by rw [hb];simpa using q
   rw [if_pos hbt];refine .inr ⟨us[i],rfl,List.mem_append_right _ (List.mem_singleton.2 rfl),ht,fun y hy Cy=> ?_⟩;rcases List.mem_append.1 hy with e|e
   ·have:=h4 y e Cy;omega
   ·rw [List.mem_singleton]at e;rw [e];exact Int.le_refl _
  ·have tK: ¬b=true:=by rw [hb];simpa using q
   rw [if_neg tK];refine .inr ⟨x,rfl,List.mem_append_left _ h2,h3,fun y hy Cy=> ?_⟩;rcases List.mem_append.1 hy with e|e
   ·exact h4 y e Cy
   ·rw [List.mem_singleton]at e;rw [e];omega
set_option maxHeartbeats 2000000 in
set_option maxRecDepth 100000 in
theorem DN (w0 V:World) (c:aq) (h:Nat) (us:List Nat) (a:Option Addr) (cap n:Nat) (hV:Ext w0 V) (hc:aT w0 c) (eR:eZ c) (hu:dQ c.aj.length us) (hn:n≤us.length) (hI:aA V a cap (aC us)):
 Calls Tryz.prog 91 #[.agg (C8 c),.int .i64 (h:Int),.slice a us.length cap,.int .i64 (n:Int)] V fun e w'=>e= .returned (i64 (gA c h us n))∧Ext V w':=by
 try unfold C8
 have hle:=hI.le;have di:=hI.cap
 rw [aK]at hle;have NT:=eR.frame.aj;have Og:=ae (mL eR (h:Int) (aC us));have PG:=ae (fV eR (h:Int));have XS:=ae (wV eR h us)
 have jV:us.length≤16:=by
  have h2:=vN (c:=c) (h:=(h:Int)) hu
  have h1:(jq c h (aC us) c.aj.length).length≤c.aj.length:=by
   unfold jq;rw [List.length_map];have:=List.length_filter_le (fun(u:Nat)=>hasB (aC us) (u:Int)) (List.range c.aj.length);rw [List.length_range]at this;exact this
  rw [h2,List.length_map]at h1;omega
 have rP:=ae jV;have rS:=ae (fun U (hU:Ext w0 U) u (hu:u<c.aj.length)=>wW w0 U c u (h:Int) hU hc hu);have mG:Hid (∀i (hi:i<us.length),us[i]<c.aj.length):=fun i hi=>hu.lt _ (List.getElem_mem hi);have vC:=ae hu.nodup;have HV:=ae hV;have HI:=ae hI;have KW:=ae NT
 clear hc eR hu hI hV jV NT;go_enter Tryz.func91,Tryz.ntmps91
 go_upto_region 1 with fail
 obtain ⟨W,hW,x0,Z0,A0⟩:=aB V 32 c.cells;rw [show V.alloc (.cells (C8 c) 32)=W from hW.symm];obtain ⟨B,hB⟩: ∃B,B=V.heap.size:=⟨_,rfl⟩;rw [←hB]at A0⊢;have HX:=ae x0;have HA:=ae A0
 clear hW x0 Z0 A0;obtain ⟨-,-,-,-,k4,-⟩:=aq.at HA.out;have Jx:Hid (Ext w0 W):=HV.out.trans HX.out;have hcu:=KW.out;clear hB;go_wp2_with (at_make;refine dG _ rfl _ _ 197 rfl 4 (.bool false) 1 Tryz.underlying197 Tryz.info_bool rfl _ _ c.aj.length rfl rfl rfl rfl (by omega) (by omega) ?_;intro w1 eE hx1 hz1)
 obtain ⟨L,hL⟩: ∃L,L=W.heap.size:=⟨_,rfl⟩;rw [←hL]at eE⊢;have uu:Hid (W.heap.size≤L):=by show _≤_;omega
 have rL:=ae (nP.zero eE.out);have eK:=ae hx1
 clear eE hx1 hz1 hL k4;go_loopw [9,11] (fun sv ii wr=> ∃(k:Nat) (s:Int),k≤c.aj.length∧s=gu c h (aC us) k∧sv= .int .i64 s∧nP wr L (fun _=>false) c.aj.length∧Ext W wr∧ii= .int .i64 k) (fun _ ii _=>c.aj.length-(intOf ii).toNat)
 case atStart=>exact ⟨0,0,Nat.zero_le _,rfl,rfl,rL.out,eK.out,rfl⟩
 case round=>
  obtain ⟨k,s,hk,hs,rfl,hT,hE,rfl⟩:=hrel;clear rL eK;obtain ⟨k0,k1,k2,k3,k4,k5,k6,k7⟩:=aq.at (HA.out.ext hE);by_cases hlt:k<c.aj.length
  ·have Bi:=jM c h (aC us) k
   have hr1:=Og.out k;have hr2:=PG.out k
   have EM:=rS.out wr (Jx.out.trans hE) k hlt;obtain ⟨z,hz⟩: ∃z,z=bC c h k:=⟨_,rfl⟩;rw [←hz]at Bi hr2 EM;have Jt:=ae EM;have qU:=ae (Fh wr a cap (aC us) (k:Int) ((HI.out.ext HX.out).ext hE));rw [aK]at qU;have hw:IntKind.i64.wrap (s+z)=s+z:=by rw [IntKind.wrap_i64,hs];omega
   have GD:=ae Bi;have HS:=ae hs;have HT:=ae hT;have HE:=ae hE
   clear hs Bi hT hE hz hr1 hr2 EM;rcases Bool.eq_false_or_eq_true (hasB (aC us) (k:Int))with hq|hq
   ·rw [hq]at qU
    have kt:Hid (s=gu c h (aC us) (k+1)):=by show _=_;rw [GD.out,if_pos hq];exact HS.out
    clear hq;go_wp2_with fail
    refine qU.out.mono ?_;rintro e w1 ⟨rfl,eE⟩;rw [eE];clear eE
    go_wp2_with fail
    exact ⟨⟨k+1,s,by omega,kt.out,by go_num,HT.out,HE.out,by go_num⟩,by simp only [intOf];omega⟩
   ·rw [hq]at qU
    have kt:Hid (s+z=gu c h (aC us) (k+1)):=by show _=_;rw [GD.out,if_neg (by rw [hq];simp),HS.out]
    clear hq;go_wp2_with fail
    refine qU.out.mono ?_;rintro e w1 ⟨rfl,eE⟩;rw [eE];clear eE
    go_wp2_with fail
    refine Jt.out.mono ?_;rintro e w2 ⟨rfl,x2⟩;have ku:=ae (HT.out.ext x2);have sy:=ae (HE.out.trans x2)
    clear x2 k0 k1 k2 k3 k4 k5 k6 k7;go_wp2_with fail
    exact ⟨⟨k+1,s+z,by omega,kt.out,by go_num,ku.out,sy.out,by go_num⟩,by simp only [intOf];omega⟩
  ·obtain rfl:k=c.aj.length:=by omega
   have XT:Hid (s=gA c h us 0):=by show _=_;rw [hs];unfold gA;simp
   have HT:=ae hT;have HE:=ae hE
   clear hs hT hE;obtain ⟨wo,uM⟩: ∃wo:World,wo=wr:=⟨_,rfl⟩;subst uM;go_wp2_with fail
   clear k0 k1 k2 k3 k4 k5 k6 k7;go_loopw [3,9] (fun nv sv wl=> ∃(j:Nat) (t:Nat→Bool) (s:Int),j≤n∧s=gA c h us j∧iK c h us j t∧nP wl L t c.aj.length∧Ext W wl∧nv= .int .i64 ((n-j:Nat):Int)∧sv= .int .i64 s) (fun nv _ _=>(intOf nv).toNat)
   case atStart=>exact ⟨0,fun _=>false,s,Nat.zero_le _,XT.out,iK.zero c h us,HT.out,HE.out,rfl,rfl⟩
   case round=>
    clear XT HT HE;obtain ⟨j,t,s,hj,hs,hR,hT,hE,rfl,rfl⟩:=hrel;by_cases hlt:j<n
    ·have XU:(0:Int)<((n-j:Nat):Int):=by omega
     have hnq:0<n-j:=by omega
     have XV:j<us.length:=by omega
     have PN:=ae (hR.some XV);have PO:Hid (∀x,x∈us→t x=false→(∀y∈us,t y=false→bC c h y≤bC c h x)→iK c h us (j+1) (fun u=>t u||u==x)∧gA c h us (j+1)=gA c h us j+bC c h x):=fun x h1 h2 h3=>hR.step vC.out XV h1 h2 h3;have HS:=ae hs;have HT:=ae hT;have HE:=ae hE
     have hwn:IntKind.i64.wrap (((n-j:Nat):Int)-1)=((n-(j+1):Nat):Int):=by rw [IntKind.wrap_i64];have:=rP.out;omega
     clear hs hR hT hE;obtain ⟨wi,hwi⟩: ∃wi:World,wi=wr:=⟨_,rfl⟩;subst hwi;go_wp2_with fail
     clear XU hnq;go_loopw [12,13] (fun bv ii wl=> ∃(i:Nat) (b:Int),i≤us.length∧fO c h us t i b∧nP wl L t c.aj.length∧Ext W wl∧bv= .int .i64 b∧ii= .int .i64 i) (fun _ ii _=>us.length-(intOf ii).toNat)
     case atStart=>exact ⟨0,-1,Nat.zero_le _,fO.zero c h us t,HT.out,HE.out,rfl,rfl⟩
     case round=>
      clear HT HE;obtain ⟨i,b,hi,hB,hT,hE,rfl,rfl⟩:=hrel;by_cases oK:i<us.length
      ·obtain ⟨ab,ao,ha,i0⟩:=((HI.out.ext HX.out).ext hE).cell i (by rw [aK];exact oK)
       have e0:(aC us)[i]'(by rw [aK];exact oK)=((us[i]:Nat):Int):=by simp [aC]
       rw [e0]at i0;have jV:=mG.out i oK;have Oa:=ae (hB.taken oK);have Ag:Hid (b= -1→t us[i]=false→fO c h us t (i+1) (us[i]:Int)):=fun e=>by rw [e]at hB;exact hB.first oK
       have eQ:Hid (∀x:Nat,b=(x:Int)→t us[i]=false→ ∀q,q=decide (bC c h x<bC c h us[i])→fO c h us t (i+1) (if q=true then(us[i]:Int)else(x:Int))):=fun x e h2 q hq=>by rw [e]at hB;exact hB.next oK h2 q hq
       have HBC:Hid (b= -1∨ ∃x:Nat,b=(x:Int)∧x<c.aj.length):=by
        show _∨_;rcases hB with⟨h1,_⟩|⟨x,h1,h2,_⟩
        ·exact .inl h1
        ·obtain ⟨m,hm,rfl⟩:=List.getElem_of_mem (List.mem_of_mem_take h2)
         exact .inr ⟨_,h1,mG.out m hm⟩
       have ER:=ae (fun U (hU:Ext w0 U)=>rS.out U hU us[i] jV);obtain ⟨u,hu⟩: ∃u,u=us[i]:=⟨_,rfl⟩;rw [←hu]at i0 jV Oa Ag eQ ER;obtain ⟨l0,-⟩:=hT.cell u jV;have xQ:=ae hT;have IH:=ae hE;have j3:=ae ha
       obtain ⟨k0,k1,k2,k3,k4,k5,k6,k7⟩:=aq.at (HA.out.ext hE);have fM:(0:Int)≤(i:Int):=by omega
       have fH:(i:Int)<(us.length:Int):=by omega
       have XW:(0:Int)≤(u:Int):=by omega
       have XX:(u:Int)<(c.aj.length:Int):=by omega
       clear hB hT hE ha hu e0;rw [j3.out];rcases Bool.eq_false_or_eq_true (t u)with Cv|Cv
       ·rw [Cv]at l0
        have HQ:=ae (Oa.out Cv);clear Cv;go_wp2_with fail
        refine ay (fun w'=>w'.cell? ⟨ab,ao+i,none⟩=some (i64 (u:Int))∧w'.cell? ⟨L,u,none⟩=some (.bool true)∧w'.cell? ⟨B,0,none⟩=some (i64 c.hours)∧w'.cell? ⟨B,1,none⟩=some (.slice c.ra c.az.length c.rc)∧w'.cell? ⟨B,2,none⟩=some (.slice c.ba c.au.length c.bc)∧w'.cell? ⟨B,3,none⟩=some (.slice c.la c.lines.length c.lc)∧w'.cell? ⟨B,4,none⟩=some (.slice c.ua c.aj.length c.uc)∧w'.cell? ⟨B,5,none⟩=some (.slice c.sa c.stores.length c.sc)∧w'.cell? ⟨B,6,none⟩=some (.slice c.ta c.aN.length c.tc)∧w'.cell? ⟨B,7,none⟩=some (.slice c.oa c.outs.length c.oc)) (fun w'=>True) (fun i=>false) (by kernel_rfl) (⟨i0,l0,k0,k1,k2,k3,k4,k5,k6,k7⟩) (trivial) (fun ar ah=> ?_);refine av 0 (.slice (some ⟨L,0,none⟩) c.aj.length c.aj.length) rfl ar ah ?_;simp only [sS];refine av 1 (.slice (some ⟨ab,ao,none⟩) us.length cap) rfl ar ah ?_;simp only [sS];refine av 2 (.int .i64 (i:Int)) rfl ar ah ?_;simp only [sS];refine av 3 (.pointer (some ⟨ab,ao+i,none⟩)) rfl ar ah ?_;simp only [sS];refine av 4 (i64 (u:Int)) rfl ar ah ?_;simp only [sS];refine av 5 (.pointer (some ⟨L,u,none⟩)) rfl ar ah ?_;simp only [sS];refine av 6 (.bool true) rfl ar ah ?_;simp only [sS];refine av 7 (.bool false) rfl ar ah ?_;simp only [sS];refine av 8 (.bool false) rfl ar ah ?_;simp only [sS];refine cA 9 rfl ar ah ?_;simp only [sS];refine cA 10 rfl ar ah ?_;simp only [sS];refine cA 11 rfl ar ah ?_;simp only [sS];refine cA 12 rfl ar ah ?_;simp only [sS];refine cA 13 rfl ar ah ?_;simp only [sS];refine cA 14 rfl ar ah ?_;simp only [sS];refine cA 15 rfl ar ah ?_;simp only [sS];refine cA 16 rfl ar ah ?_;simp only [sS];refine cA 17 rfl ar ah ?_;simp only [sS];refine cA 18 rfl ar ah ?_;simp only [sS];refine cA 19 rfl ar ah ?_;simp only [sS];refine cA 20 rfl ar ah ?_;simp only [sS];refine cA 21 rfl ar ah ?_;simp only [sS];refine cA 22 rfl ar ah ?_;simp only [sS];refine cA 23 rfl ar ah ?_;simp only [sS];refine cA 24 rfl ar ah ?_;simp only [sS];refine av 25 (.bool false) rfl ar ah ?_;simp only [sS];refine ax (by kernel_rfl) ?_ _;clear ar ah;clear i0 l0 k0 k1 k2 k3 k4 k5 k6 k7;go_wp2_with fail
        exact ⟨⟨i+1,b,by omega,HQ.out,xQ.out.ext (Ext.refl wr).drew,IH.out.drew,rfl,by go_num⟩,by simp only [intOf];omega⟩
       ·rw [Cv]at l0
        rcases HBC.out with hb|⟨x,hb,nQ⟩
        ·have HQ:=ae (Ag.out hb Cv)
         subst hb;clear Cv;go_wp2_with fail
         refine ay (fun w'=>w'.cell? ⟨ab,ao+i,none⟩=some (i64 (u:Int))∧w'.cell? ⟨L,u,none⟩=some (.bool false)∧w'.cell? ⟨B,0,none⟩=some (i64 c.hours)∧w'.cell? ⟨B,1,none⟩=some (.slice c.ra c.az.length c.rc)∧w'.cell? ⟨B,2,none⟩=some (.slice c.ba c.au.length c.bc)∧w'.cell? ⟨B,3,none⟩=some (.slice c.la c.lines.length c.lc)∧w'.cell? ⟨B,4,none⟩=some (.slice c.ua c.aj.length c.uc)∧w'.cell? ⟨B,5,none⟩=some (.slice c.sa c.stores.length c.sc)∧w'.cell? ⟨B,6,none⟩=some (.slice c.ta c.aN.length c.tc)∧w'.cell? ⟨B,7,none⟩=some (.slice c.oa c.outs.length c.oc)) (fun w'=>True) (fun i=>false) (by kernel_rfl) (⟨i0,l0,k0,k1,k2,k3,k4,k5,k6,k7⟩) (trivial) (fun ar ah=> ?_);refine av 0 (.slice (some ⟨L,0,none⟩) c.aj.length c.aj.length) rfl ar ah ?_;simp only [sS];refine av 1 (.slice (some ⟨ab,ao,none⟩) us.length cap) rfl ar ah ?_;simp only [sS];refine av 2 (.int .i64 (i:Int)) rfl ar ah ?_;simp only [sS];refine av 3 (.pointer (some ⟨ab,ao+i,none⟩)) rfl ar ah ?_;simp only [sS];refine av 4 (i64 (u:Int)) rfl ar ah ?_;simp only [sS];refine av 5 (.pointer (some ⟨L,u,none⟩)) rfl ar ah ?_;simp only [sS];refine av 6 (.bool false) rfl ar ah ?_;simp only [sS];refine av 7 (.bool true) rfl ar ah ?_;simp only [sS];refine av 8 (.bool true) rfl ar ah ?_;simp only [sS];refine av 9 (.int .i64 (-1)) rfl ar ah ?_;simp only [sS];refine av 10 (.bool true) rfl ar ah ?_;simp only [sS];refine av 11 (.bool true) rfl ar ah ?_;simp only [sS];refine cA 12 rfl ar ah ?_;simp only [sS];refine cA 13 rfl ar ah ?_;simp only [sS];refine cA 14 rfl ar ah ?_;simp only [sS];refine cA 15 rfl ar ah ?_;simp only [sS];refine cA 16 rfl ar ah ?_;simp only [sS];refine cA 17 rfl ar ah ?_;simp only [sS];refine cA 18 rfl ar ah ?_;simp only [sS];refine cA 19 rfl ar ah ?_;simp only [sS];refine cA 20 rfl ar ah ?_;simp only [sS];refine cA 21 rfl ar ah ?_;simp only [sS];refine cA 22 rfl ar ah ?_;simp only [sS];refine cA 23 rfl ar ah ?_;simp only [sS];refine av 24 (.bool true) rfl ar ah ?_;simp only [sS];refine av 25 (.bool true) rfl ar ah ?_;simp only [sS];refine ax (by kernel_rfl) ?_ _;clear ar ah;clear l0 k0 k1 k2 k3 k4 k5 k6 k7;have i0:=ai (Ext.refl wr).drew i0;go_wp2_with fail
         exact ⟨⟨i+1,(u:Int),by omega,HQ.out,xQ.out.ext (Ext.refl wr).drew,IH.out.drew,by go_num,by go_num⟩,by simp only [intOf];omega⟩
        ·have HQ:=ae (eQ.out x hb Cv)
         have Up:=ae (fun U (hU:Ext w0 U)=>rS.out U hU x nQ);subst hb;obtain ⟨cu,PQ⟩: ∃cu,cu=bC c h u:=⟨_,rfl⟩;obtain ⟨cx,GF⟩: ∃cx,cx=bC c h x:=⟨_,rfl⟩;rw [←PQ]at ER HQ;rw [←GF]at Up HQ;have bx0: ¬((x:Int)<0):=by omega
         clear Cv PQ GF;rcases Bool.eq_false_or_eq_true (decide (cx<cu))with hcc|hcc
         ·have j4:=ae (HQ.out true (by rw [hcc]))
          go_wp2_with fail
          refine ay (fun w'=>w'.cell? ⟨ab,ao+i,none⟩=some (i64 (u:Int))∧w'.cell? ⟨L,u,none⟩=some (.bool false)∧w'.cell? ⟨B,0,none⟩=some (i64 c.hours)∧w'.cell? ⟨B,1,none⟩=some (.slice c.ra c.az.length c.rc)∧w'.cell? ⟨B,2,none⟩=some (.slice c.ba c.au.length c.bc)∧w'.cell? ⟨B,3,none⟩=some (.slice c.la c.lines.length c.lc)∧w'.cell? ⟨B,4,none⟩=some (.slice c.ua c.aj.length c.uc)∧w'.cell? ⟨B,5,none⟩=some (.slice c.sa c.stores.length c.sc)∧w'.cell? ⟨B,6,none⟩=some (.slice c.ta c.aN.length c.tc)∧w'.cell? ⟨B,7,none⟩=some (.slice c.oa c.outs.length c.oc)) (fun w'=>True) (fun i=>false) (by kernel_rfl) (⟨i0,l0,k0,k1,k2,k3,k4,k5,k6,k7⟩) (trivial) (fun ar ah=> ?_);refine av 0 (.slice (some ⟨L,0,none⟩) c.aj.length c.aj.length) rfl ar ah ?_;simp only [sS];refine av 1 (.slice (some ⟨ab,ao,none⟩) us.length cap) rfl ar ah ?_;simp only [sS];refine av 2 (.int .i64 (i:Int)) rfl ar ah ?_;simp only [sS];refine av 3 (.pointer (some ⟨ab,ao+i,none⟩)) rfl ar ah ?_;simp only [sS];refine av 4 (i64 (u:Int)) rfl ar ah ?_;simp only [sS];refine av 5 (.pointer (some ⟨L,u,none⟩)) rfl ar ah ?_;simp only [sS];refine av 6 (.bool false) rfl ar ah ?_;simp only [sS];refine av 7 (.bool true) rfl ar ah ?_;simp only [sS];refine av 8 (.bool true) rfl ar ah ?_;simp only [sS];refine av 9 (.int .i64 (x:Int)) rfl ar ah ?_;simp only [sS];refine av 10 (.bool false) rfl ar ah ?_;simp only [sS];refine av 11 (.bool false) rfl ar ah ?_;simp only [sS];refine av 12 (.agg #[i64 c.hours,.slice c.ra c.az.length c.rc,.slice c.ba c.au.length c.bc,.slice c.la c.lines.length c.lc,.slice c.ua c.aj.length c.uc,.slice c.sa c.stores.length c.sc,.slice c.ta c.aN.length c.tc,.slice c.oa c.outs.length c.oc]) rfl ar ah ?_;simp only [sS];refine av 13 (.slice (some ⟨ab,ao,none⟩) us.length cap) rfl ar ah ?_;simp only [sS];refine av 14 (.int .i64 (i:Int)) rfl ar ah ?_;simp only [sS];refine av 15 (.pointer (some ⟨ab,ao+i,none⟩)) rfl ar ah ?_;simp only [sS];refine av 16 (i64 (u:Int)) rfl ar ah ?_;simp only [sS];refine av 17 (.int .i64 (h:Int)) rfl ar ah ?_;simp only [sS];refine av 19 (.agg #[i64 c.hours,.slice c.ra c.az.length c.rc,.slice c.ba c.au.length c.bc,.slice c.la c.lines.length c.lc,.slice c.ua c.aj.length c.uc,.slice c.sa c.stores.length c.sc,.slice c.ta c.aN.length c.tc,.slice c.oa c.outs.length c.oc]) rfl ar ah ?_;simp only [sS];refine av 20 (.int .i64 (x:Int)) rfl ar ah ?_;simp only [sS];refine av 21 (.int .i64 (h:Int)) rfl ar ah ?_;simp only [sS];refine cG 18 rfl (fun Kc hK=> ?_);go_simp;refine (ER.out wr.drew ((Jx.out.trans IH.out).drew)).mono ?_;rintro e z1 ⟨rfl,xz⟩;refine hK.out _ _ (⟨ai ((Ext.refl wr).drew.trans xz) i0,ai ((Ext.refl wr).drew.trans xz) l0,ai ((Ext.refl wr).drew.trans xz) k0,ai ((Ext.refl wr).drew.trans xz) k1,ai ((Ext.refl wr).drew.trans xz) k2,ai ((Ext.refl wr).drew.trans xz) k3,ai ((Ext.refl wr).drew.trans xz) k4,ai ((Ext.refl wr).drew.trans xz) k5,ai ((Ext.refl wr).drew.trans xz) k6,ai ((Ext.refl wr).drew.trans xz) k7⟩) (trivial) (fun ar ah=> ?_);clear hK Kc;try simp only [sS]
          refine cG 22 rfl (fun Kc hK=> ?_);go_simp;refine (Up.out z1 ((Jx.out.trans IH.out).drew.trans xz)).mono ?_;rintro e z2 ⟨rfl,xy⟩;refine hK.out _ _ (⟨ai ((Ext.refl wr).drew.trans (xz.trans xy)) i0,ai ((Ext.refl wr).drew.trans (xz.trans xy)) l0,ai ((Ext.refl wr).drew.trans (xz.trans xy)) k0,ai ((Ext.refl wr).drew.trans (xz.trans xy)) k1,ai ((Ext.refl wr).drew.trans (xz.trans xy)) k2,ai ((Ext.refl wr).drew.trans (xz.trans xy)) k3,ai ((Ext.refl wr).drew.trans (xz.trans xy)) k4,ai ((Ext.refl wr).drew.trans (xz.trans xy)) k5,ai ((Ext.refl wr).drew.trans (xz.trans xy)) k6,ai ((Ext.refl wr).drew.trans (xz.trans xy)) k7⟩) (trivial) (fun ar ah=> ?_);clear hK Kc;try simp only [sS]
          refine av 23 (.bool true) rfl ar ah ?_;simp only [sS];refine av 24 (.bool true) rfl ar ah ?_;simp only [sS];refine av 25 (.bool true) rfl ar ah ?_;simp only [sS];refine ax (by kernel_rfl) ?_ _;clear ar ah;clear l0 k0 k1 k2 k3 k4 k5 k6 k7 hcc;have iD:Ext wr z2:=(Ext.refl wr).drew.trans (xz.trans xy);have Mu:=ae (xQ.out.ext iD);have Oi:=ae (IH.out.trans iD)
          have i0:=ai iD i0;clear iD xz xy;go_wp2_with fail
          exact ⟨⟨i+1,(u:Int),by omega,by simpa using j4.out,Mu.out,Oi.out,by go_num,by go_num⟩,by simp only [intOf];omega⟩
         ·have j4:=ae (HQ.out false (by rw [hcc]))
          go_wp2_with fail
          refine ay (fun w'=>w'.cell? ⟨ab,ao+i,none⟩=some (i64 (u:Int))∧w'.cell? ⟨L,u,none⟩=some (.bool false)∧w'.cell? ⟨B,0,none⟩=some (i64 c.hours)∧w'.cell? ⟨B,1,none⟩=some (.slice c.ra c.az.length c.rc)∧w'.cell? ⟨B,2,none⟩=some (.slice c.ba c.au.length c.bc)∧w'.cell? ⟨B,3,none⟩=some (.slice c.la c.lines.length c.lc)∧w'.cell? ⟨B,4,none⟩=some (.slice c.ua c.aj.length c.uc)∧w'.cell? ⟨B,5,none⟩=some (.slice c.sa c.stores.length c.sc)∧w'.cell? ⟨B,6,none⟩=some (.slice c.ta c.aN.length c.tc)∧w'.cell? ⟨B,7,none⟩=some (.slice c.oa c.outs.length c.oc)) (fun w'=>True) (fun i=>false) (by kernel_rfl) (⟨i0,l0,k0,k1,k2,k3,k4,k5,k6,k7⟩) (trivial) (fun ar ah=> ?_);refine av 0 (.slice (some ⟨L,0,none⟩) c.aj.length c.aj.length) rfl ar ah ?_;simp only [sS];refine av 1 (.slice (some ⟨ab,ao,none⟩) us.length cap) rfl ar ah ?_;simp only [sS];refine av 2 (.int .i64 (i:Int)) rfl ar ah ?_;simp only [sS];refine av 3 (.pointer (some ⟨ab,ao+i,none⟩)) rfl ar ah ?_;simp only [sS];refine av 4 (i64 (u:Int)) rfl ar ah ?_;simp only [sS];refine av 5 (.pointer (some ⟨L,u,none⟩)) rfl ar ah ?_;simp only [sS];refine av 6 (.bool false) rfl ar ah ?_;simp only [sS];refine av 7 (.bool true) rfl ar ah ?_;simp only [sS];refine av 8 (.bool true) rfl ar ah ?_;simp only [sS];refine av 9 (.int .i64 (x:Int)) rfl ar ah ?_;simp only [sS];refine av 10 (.bool false) rfl ar ah ?_;simp only [sS];refine av 11 (.bool false) rfl ar ah ?_;simp only [sS];refine av 12 (.agg #[i64 c.hours,.slice c.ra c.az.length c.rc,.slice c.ba c.au.length c.bc,.slice c.la c.lines.length c.lc,.slice c.ua c.aj.length c.uc,.slice c.sa c.stores.length c.sc,.slice c.ta c.aN.length c.tc,.slice c.oa c.outs.length c.oc]) rfl ar ah ?_;simp only [sS];refine av 13 (.slice (some ⟨ab,ao,none⟩) us.length cap) rfl ar ah ?_;simp only [sS];refine av 14 (.int .i64 (i:Int)) rfl ar ah ?_;simp only [sS];refine av 15 (.pointer (some ⟨ab,ao+i,none⟩)) rfl ar ah ?_;simp only [sS];refine av 16 (i64 (u:Int)) rfl ar ah ?_;simp only [sS];refine av 17 (.int .i64 (h:Int)) rfl ar ah ?_;simp only [sS];refine av 19 (.agg #[i64 c.hours,.slice c.ra c.az.length c.rc,.slice c.ba c.au.length c.bc,.slice c.la c.lines.length c.lc,.slice c.ua c.aj.length c.uc,.slice c.sa c.stores.length c.sc,.slice c.ta c.aN.length c.tc,.slice c.oa c.outs.length c.oc]) rfl ar ah ?_;simp only [sS];refine av 20 (.int .i64 (x:Int)) rfl ar ah ?_;simp only [sS];refine av 21 (.int .i64 (h:Int)) rfl ar ah ?_;simp only [sS];refine cG 18 rfl (fun Kc hK=> ?_);go_simp;refine (ER.out wr.drew ((Jx.out.trans IH.out).drew)).mono ?_;rintro e z1 ⟨rfl,xz⟩;refine hK.out _ _ (⟨ai ((Ext.refl wr).drew.trans xz) i0,ai ((Ext.refl wr).drew.trans xz) l0,ai ((Ext.refl wr).drew.trans xz) k0,ai ((Ext.refl wr).drew.trans xz) k1,ai ((Ext.refl wr).drew.trans xz) k2,ai ((Ext.refl wr).drew.trans xz) k3,ai ((Ext.refl wr).drew.trans xz) k4,ai ((Ext.refl wr).drew.trans xz) k5,ai ((Ext.refl wr).drew.trans xz) k6,ai ((Ext.refl wr).drew.trans xz) k7⟩) (trivial) (fun ar ah=> ?_);clear hK Kc;try simp only [sS]
          refine cG 22 rfl (fun Kc hK=> ?_);go_simp;refine (Up.out z1 ((Jx.out.trans IH.out).drew.trans xz)).mono ?_;rintro e z2 ⟨rfl,xy⟩;refine hK.out _ _ (⟨ai ((Ext.refl wr).drew.trans (xz.trans xy)) i0,ai ((Ext.refl wr).drew.trans (xz.trans xy)) l0,ai ((Ext.refl wr).drew.trans (xz.trans xy)) k0,ai ((Ext.refl wr).drew.trans (xz.trans xy)) k1,ai ((Ext.refl wr).drew.trans (xz.trans xy)) k2,ai ((Ext.refl wr).drew.trans (xz.trans xy)) k3,ai ((Ext.refl wr).drew.trans (xz.trans xy)) k4,ai ((Ext.refl wr).drew.trans (xz.trans xy)) k5,ai ((Ext.refl wr).drew.trans (xz.trans xy)) k6,ai ((Ext.refl wr).drew.trans (xz.trans xy)) k7⟩) (trivial) (fun ar ah=> ?_);clear hK Kc;try simp only [sS]
          refine av 23 (.bool false) rfl ar ah ?_;simp only [sS];refine av 24 (.bool false) rfl ar ah ?_;simp only [sS];refine av 25 (.bool false) rfl ar ah ?_;simp only [sS];refine ax (by kernel_rfl) ?_ _;clear ar ah;clear l0 k0 k1 k2 k3 k4 k5 k6 k7 hcc;have iD:Ext wr z2:=(Ext.refl wr).drew.trans (xz.trans xy);have Mu:=ae (xQ.out.ext iD);have Oi:=ae (IH.out.trans iD)
          have i0:=ai iD i0;clear iD xz xy;go_wp2_with fail
          exact ⟨⟨i+1,(x:Int),by omega,by simpa using j4.out,Mu.out,Oi.out,by go_num,by go_num⟩,by simp only [intOf];omega⟩
      ·obtain rfl:i=us.length:=by omega
       obtain ⟨y,hy,Cy⟩:=PN.out
       obtain ⟨x,hbx,hx1,hx2,hx3⟩: ∃x:Nat,b=(x:Int)∧x∈us∧t x=false∧ ∀y∈us,t y=false→bC c h y≤bC c h x:=by
        rcases hB with⟨_,h2⟩|⟨x,h1,h2,h3,h4⟩
        ·rw [List.take_length]at h2;rw [h2 y hy]at Cy;cases Cy
        ·rw [List.take_length]at h2 h4;exact ⟨x,h1,h2,h3,h4⟩
       subst hbx;obtain ⟨PR,wM⟩:=PO.out x hx1 hx2 hx3;have nQ:x<c.aj.length:=by obtain ⟨m,hm,rfl⟩:=List.getElem_of_mem hx1;exact mG.out m hm
       have EM:=rS.out wr (Jx.out.trans hE) x nQ;have Jy:=XS.out (j+1);have XY:=XS.out j;have Jv:=PG.out x;rw [←HS.out]at wM XY;rw [wM]at Jy;obtain ⟨cx,GF⟩: ∃cx,cx=bC c h x:=⟨_,rfl⟩;rw [←GF]at wM EM Jy Jv;have hw:IntKind.i64.wrap (s+cx)=s+cx:=by rw [IntKind.wrap_i64];have:=KW.out;have:=rP.out;omega
       have Jt:=ae EM;have Uq:=ae PR;have Je:=ae wM.symm;have xQ:=ae hT;have IH:=ae hE
       obtain ⟨k0,k1,k2,k3,k4,k5,k6,k7⟩:=aq.at (HA.out.ext hE);have bx0:(0:Int)≤(x:Int):=by omega
       have bx1:(x:Int)<(c.aj.length:Int):=by omega
       clear hB hT hE hy Cy hx1 hx2 hx3 PR wM EM Jy XY Jv GF;go_wp2_with fail
       refine Jt.out.mono ?_;rintro e w2 ⟨rfl,x2⟩;have ku:=ae (xQ.out.ext x2);obtain ⟨l0,f0⟩:=ku.out.cell x nQ;have GG:=ae (ku.out.set x);have yA:=ae ((IH.out.trans x2).setCell (p:=⟨L,x,none⟩) uu.out (.bool true));clear x2 k0 k1 k2 k3 k4 k5 k6 k7;go_wp2_with fail
       exact ⟨⟨j+1,_,s+cx,by omega,Je.out,Uq.out,GG.out,yA.out,by go_num,by go_num⟩,by simp only [intOf];omega⟩
    ·obtain rfl:j=n:=by omega
     have XU: ¬(0:Int)<((j-j:Nat):Int):=by omega
     have HS:=ae hs;have HE:=ae hE
     clear hs hR hT hE;go_wp2_with fail
     go_ret;exact ⟨by rw [←HS.out];rfl,HX.out.trans HE.out⟩
set_option maxHeartbeats 1000000 in
set_option maxRecDepth 100000 in
theorem tN (w0 V:World) (c:aq) (h:Nat) (us:List Nat) (a:Option Addr) (cap k:Nat) (hV:Ext w0 V) (hc:aT w0 c) (eR:eZ c) (hh:(h:Int)<c.hours) (hu:dQ c.aj.length us) (oJ:1≤k) (hk:k≤us.length) (hI:aA V a cap (aC us)):
 Calls Tryz.prog 42 #[.agg (C8 c),.int .i64 (h:Int),.slice a us.length cap,.int .i64 (k:Int)] V fun e w'=>e= .returned (.bool (decide (k≤fw c h us)))∧Ext V w':=by
 try unfold C8
 have EM:=hI.cap;have Ur:=hI.le
 rw [aK]at Ur
 have SV:Hid (decide (gA c h us (k-1)<kK c h)=decide (k≤fw c h us)):=by
  show _=_;have:=Gm eR h us (k-1) (by omega);rw [Bool.eq_iff_iff];simp only [decide_eq_true_iff];omega
 obtain ⟨rb,xR⟩: ∃rb,rb=decide (k≤fw c h us):=⟨_,rfl⟩;rw [←xR]at SV⊢;have XZ:=ae (fun U (hU:Ext w0 U) (Us:aA U a cap (aC us))=>DN w0 U c h us a cap (k-1) hU hc eR hu (by omega) Us);have tq:=ae (fun U (hU:Ext w0 U)=>Gw w0 U c h hU hc eR hh);obtain ⟨rv,IE⟩: ∃rv,rv=gA c h us (k-1):=⟨_,rfl⟩;obtain ⟨nv,X2⟩: ∃nv,nv=kK c h:=⟨_,rfl⟩;rw [←IE]at XZ SV;rw [←X2]at tq SV;have HV:=ae hV;have HI:=ae hI
 have hw:IntKind.i64.wrap ((k:Int)-1)=((k-1:Nat):Int):=by rw [IntKind.wrap_i64];omega
 clear hc eR hu hI hV hh IE X2 xR;go_enter Tryz.func42,Tryz.ntmps42
 go_upto_region 1 with fail
 obtain ⟨W,hW,x0,Z0,A0⟩:=aB V 32 c.cells;rw [show V.alloc (.cells (C8 c) 32)=W from hW.symm];obtain ⟨B,hB⟩: ∃B,B=V.heap.size:=⟨_,rfl⟩;rw [←hB]at A0⊢;have HX:=ae x0;have HA:=ae A0
 clear hW x0 Z0 A0;obtain ⟨k0,k1,k2,k3,k4,k5,k6,k7⟩:=aq.at HA.out;have Jx:Hid (Ext w0 W):=HV.out.trans HX.out;clear hB;go_wp2_with fail
 refine ay (fun w'=>w'.cell? ⟨B,0,none⟩=some (i64 c.hours)∧w'.cell? ⟨B,1,none⟩=some (.slice c.ra c.az.length c.rc)∧w'.cell? ⟨B,2,none⟩=some (.slice c.ba c.au.length c.bc)∧w'.cell? ⟨B,3,none⟩=some (.slice c.la c.lines.length c.lc)∧w'.cell? ⟨B,4,none⟩=some (.slice c.ua c.aj.length c.uc)∧w'.cell? ⟨B,5,none⟩=some (.slice c.sa c.stores.length c.sc)∧w'.cell? ⟨B,6,none⟩=some (.slice c.ta c.aN.length c.tc)∧w'.cell? ⟨B,7,none⟩=some (.slice c.oa c.outs.length c.oc)) (fun w'=>True) (fun i=>false) (by kernel_rfl) (⟨k0,k1,k2,k3,k4,k5,k6,k7⟩) (trivial) (fun ar ah=> ?_);refine av 0 (.agg #[i64 c.hours,.slice c.ra c.az.length c.rc,.slice c.ba c.au.length c.bc,.slice c.la c.lines.length c.lc,.slice c.ua c.aj.length c.uc,.slice c.sa c.stores.length c.sc,.slice c.ta c.aN.length c.tc,.slice c.oa c.outs.length c.oc]) rfl ar ah ?_;simp only [sS];refine av 1 (.int .i64 (h:Int)) rfl ar ah ?_;simp only [sS];refine av 2 (.slice a us.length cap) rfl ar ah ?_;simp only [sS];refine av 3 (.int .i64 (k:Int)) rfl ar ah ?_;simp only [sS];refine av 4 (.int .i64 ((k-1:Nat):Int)) rfl ar ah ?_;simp only [sS];refine av 6 (.agg #[i64 c.hours,.slice c.ra c.az.length c.rc,.slice c.ba c.au.length c.bc,.slice c.la c.lines.length c.lc,.slice c.ua c.aj.length c.uc,.slice c.sa c.stores.length c.sc,.slice c.ta c.aN.length c.tc,.slice c.oa c.outs.length c.oc]) rfl ar ah ?_;simp only [sS];refine av 7 (.int .i64 (h:Int)) rfl ar ah ?_;simp only [sS];refine cG 5 rfl (fun Kc hK=> ?_);go_simp;refine (XZ.out W.drew Jx.out.drew ((HI.out.ext HX.out).ext (Ext.refl _).drew)).mono ?_;rintro e z1 ⟨rfl,xz⟩;refine hK.out _ _ (⟨ai ((Ext.refl W).drew.trans xz) k0,ai ((Ext.refl W).drew.trans xz) k1,ai ((Ext.refl W).drew.trans xz) k2,ai ((Ext.refl W).drew.trans xz) k3,ai ((Ext.refl W).drew.trans xz) k4,ai ((Ext.refl W).drew.trans xz) k5,ai ((Ext.refl W).drew.trans xz) k6,ai ((Ext.refl W).drew.trans xz) k7⟩) (trivial) (fun ar ah=> ?_);clear hK Kc;try simp only [sS]
 refine cG 8 rfl (fun Kc hK=> ?_);go_simp;refine (tq.out z1 (Jx.out.drew.trans xz)).mono ?_;rintro e z2 ⟨rfl,xy⟩;refine hK.out _ _ (⟨ai ((Ext.refl W).drew.trans (xz.trans xy)) k0,ai ((Ext.refl W).drew.trans (xz.trans xy)) k1,ai ((Ext.refl W).drew.trans (xz.trans xy)) k2,ai ((Ext.refl W).drew.trans (xz.trans xy)) k3,ai ((Ext.refl W).drew.trans (xz.trans xy)) k4,ai ((Ext.refl W).drew.trans (xz.trans xy)) k5,ai ((Ext.refl W).drew.trans (xz.trans xy)) k6,ai ((Ext.refl W).drew.trans (xz.trans xy)) k7⟩) (trivial) (fun ar ah=> ?_);clear hK Kc;try simp only [sS]
 refine av 9 (.bool (decide (rv<nv))) rfl ar ah ?_;simp only [sS];refine av 10 (.bool (decide (rv<nv))) rfl ar ah ?_;simp only [sS];refine ax (by kernel_rfl) ?_ _;clear ar ah;go_wp2_with fail
 go_ret;exact ⟨by rw [←SV.out];rfl,HX.out.trans ((Ext.refl W).drew.trans (xz.trans xy))⟩
end Go.Proofs.YtkpngkdgphojlaaGreat
