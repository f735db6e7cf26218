/- Texts of the proof. -/
import Derived.Test.YtkpngkdgphojlaaGreatCd15
import Derived.Test.YtkpngkdgphojlaaGreatCd18
set_option linter.all false
set_option maxHeartbeats 2000000
set_option maxRecDepth 100000
namespace Go.Proofs.YtkpngkdgphojlaaGreat
open Go.Proofs.Tryz
open Go.RowKit
theorem Tryz.info_ints:(Tryz.prog.info? 22).map (fun i=>(i.zero,i.size,i.bytes))=some (some (.slice none 0 0),1,24):=by kernel_rfl
theorem Bg (V:World) (a:Option Addr) (kc:Nat) (ks:List KV) (hk:iI V a kc ks):
 Calls prog 24 #[.slice a ks.length kc] V fun e w'=> ∃t:Bool,e= .returned (.bool t)∧Ext V w':=by
 have hle:=hk.le;have dy:=hk.recs.cap
 have HK:=ae hk;clear hk;go_enter func24,ntmps24
 by_cases h6:(6:Int)<(ks.length:Int)
 ·have t6:decide ((6:Int)<(ks.length:Int))=true:=decide_eq_true h6
  go_wp2_with fail
  go_ret;exact ⟨false,rfl,Ext.refl _⟩
 have t6:decide ((6:Int)<(ks.length:Int))=false:=decide_eq_false h6;go_wp2_with fail
 clear t6 h6;go_loopw [3] (fun ii wr=> ∃k:Nat,k≤ks.length∧wr=V∧ii= .int .i64 k) (fun ii _=>ks.length-(intOf ii).toNat)
 case atStart=>exact ⟨0,Nat.zero_le _,rfl,rfl⟩
 case round=>
  obtain ⟨i,hi,hw,rfl⟩:=hrel;rw [hw];clear hw;by_cases hlt:i<ks.length
  ·obtain ⟨b,o,x,hx,ha,c0⟩:=HK.o.at i hlt
   have f_:(0:Int)≤(i:Int):=by omega
   have fU:(i:Int)<(ks.length:Int):=by omega
   rw [ha];clear ha hx;by_cases h8:(8:Int)<(x.l.length:Int)
   ·have t8:decide ((8:Int)<(x.l.length:Int))=true:=decide_eq_true h8
    go_wp2_with fail
    go_ret;exact ⟨false,rfl,Ext.refl _⟩
   ·have t8:decide ((8:Int)<(x.l.length:Int))=false:=decide_eq_false h8
    go_wp2_with fail
    exact ⟨⟨i+1,by omega,by first|trivial|rfl,by go_num⟩,by simp only [intOf];omega⟩
  ·obtain rfl:i=ks.length:=by omega
   go_wp2_with fail
   go_ret;exact ⟨true,rfl,Ext.refl _⟩
structure Iz (Wt:World) (T:Nat) (a:Option Addr) (c:Nat) (l:List Int) (ga:Option Addr) (gc:Nat) (ks:List KV) (W:World):Prop where
 tape:aY W T a c l
 x:ar T Wt W
 own:aN W Wt.heap.size 22 1 (.slice ga ks.length gc) (ks.map KV.cells)
 row: ∀k∈ks,aD W k.a k.c k.l∧ ∀p,k.a=some p→Wt.heap.size≤p.block∧p.block<W.heap.size∧ ∀q,ga=some q→p.block≠q.block
 lt:T<Wt.heap.size
theorem Iz.next {Wt W W':World} {T:Nat} {a:Option Addr} {c:Nat} {l:List Int} {ga:Option Addr} {gc:Nat} {ks:List KV} (h:Iz Wt T a c l ga gc ks W) (hT:aY W' T a c l) (hx:ar T W W'):Iz Wt T a c l ga gc ks W':=by
 have hlt:=h.lt;have hs:=hx.size
 refine ⟨hT,h.x.trans hx,h.own.but hx h.lt,fun k hk=> ?_,h.lt⟩;obtain ⟨h1,h2⟩:=h.row k hk;exact ⟨h1.dA hx (fun p e=>by have:=h2 p e;omega),fun p e=>by have h3:=h2 p e;exact ⟨h3.1,by omega,h3.2.2⟩⟩
theorem Iz.jQ {Wt W:World} {T:Nat} {a:Option Addr} {c:Nat} {l:List Int} {ga:Option Addr} {gc:Nat} {ks:List KV} (h:Iz Wt T a c l ga gc ks W): ∀q,ga=some q→Wt.heap.size≤q.block∧q.block<W.heap.size:=fun q hq=>by
 have h1:=h.own.own.lt q.block (by rw [hq];rfl);exact h1
theorem Iz.push {Wt W w5:World} {T:Nat} {a:Option Addr} {c:Nat} {l:List Int} {ga:Option Addr} {gc:Nat} {ks:List KV} (h:Iz Wt T a c l ga gc ks W) {b:Option Addr} {cap:Nat} {z:List Int} {v1:Value}
 (hz:aD W b cap z) (hzb: ∀p,b=some p→Wt.heap.size≤p.block∧p.block<W.heap.size∧ ∀q,ga=some q→p.block≠q.block)
 (ho:w5.ownsRow Wt.heap.size 22 1 v1 (ks.length+1) ((ks.map KV.cells).flatten++ [.slice b z.length cap])) (he: ∀a0,Ext a0 W→a0.heap.size≤Wt.heap.size→Ext a0 w5) (hb: ∀k,k<W.heap.size→some k≠Value.ownBlock (.slice ga ks.length gc)→w5.heap[k]?=W.heap[k]?) (hs:W.heap.size≤w5.heap.size)
 (hv:v1.ownBlock=Value.ownBlock (.slice ga ks.length gc)∨ ∃g,v1.ownBlock=some g∧W.heap.size≤g):
 ∃g2 k2,v1= .slice g2 (ks++ [(⟨b,cap,z⟩:KV)]).length k2∧Iz Wt T a c l g2 k2 (ks++ [⟨b,cap,z⟩]) w5:=by
 obtain ⟨g2,k2,rfl⟩:=je ho;have qN:=h.lt;have hsz:=h.x.size
 obtain ⟨K,NR,Kj,hKx⟩:=iB (base:=Wt.heap.size) (v:= .slice ga ks.length gc) hsz (fun k q=>(h.own.own.lt k q).1) he hb hs
 have NT:K=W.heap.size∨ ∃q,ga=some q∧q.block=K:=by
  rcases Kj with q|q
  ·exact .inl q
  ·cases ga with
   |none=>cases q
   |some q'=>exact .inr ⟨q',rfl,by have e2:some q'.block=some K:=q;cases e2;rfl⟩
 have Bf: ∀p:Addr,Wt.heap.size≤p.block∧p.block<W.heap.size∧(∀q,ga=some q→p.block≠q.block)→p.block≠K:=fun p hp=>by
  rcases NT with q|⟨q,q1,q2⟩
  ·omega
  ·have:=hp.2.2 q q1;omega
 have hg2: ∀q,g2=some q→(∃q0,ga=some q0∧q.block=q0.block)∨W.heap.size≤q.block:=fun q hq=>by
  subst hq;rcases hv with e1|⟨g,e1,e2⟩
  ·cases ga with
   |none=>cases e1
   |some q'=>exact .inl ⟨q',rfl,by have e3:some q.block=some q'.block:=e1;exact Option.some.inj e3⟩
  ·have e3:some q.block=some g:=e1
   cases e3;exact .inr e2
 have hs5:=hKx.size;have hl:(ks++ [(⟨b,cap,z⟩:KV)]).length=ks.length+1:=by simp
 have hstep: ∀(s:Option Addr),(∀p,s=some p→Wt.heap.size≤p.block∧p.block<W.heap.size∧ ∀q,ga=some q→p.block≠q.block)→ ∀p,s=some p→Wt.heap.size≤p.block∧p.block<w5.heap.size∧ ∀q,g2=some q→p.block≠q.block:=fun s hsx p hp=>by
  have h3:=hsx p hp;refine ⟨h3.1,by omega,fun q' hq'=> ?_⟩;rcases hg2 q' hq' with⟨q0,h5,h6⟩|h5
  ·have:=h3.2.2 q0 h5;omega
  ·omega
 refine ⟨g2,k2,by rw [hl],h.tape.keep (hKx.block T h.tape.lt (by omega)),?_,?_,fun k hk=> ?_,h.lt⟩
 ·exact ar.append h.x (Nat.le_refl _) (fun k q=>(h.own.own.lt k q).1) he hb hs
 ·have h5:=h.own.snoc (w':=w5) (v':= .slice g2 (ks.length+1) k2) (r:= [.slice b z.length cap]) rfl (by rw [List.length_map];exact ho)
  rw [hl,List.map_append];exact h5
 ·rcases List.mem_append.1 hk with e1|e1
  ·obtain ⟨h1,h2⟩:=h.row k e1
   exact ⟨h1.dA hKx (fun p q=>Bf p (h2 p q)),hstep _ h2⟩
  ·rw [List.mem_singleton]at e1;subst e1
   exact ⟨hz.dA hKx (fun p q=>Bf p (hzb p q)),hstep _ hzb⟩
structure My (n:Nat) (a:Option Addr) (ks:List KV):Prop where
 own: ∀p,a=some p→n≤p.block
 row: ∀k∈ks,∀p,k.a=some p→n≤p.block
theorem Iz.done {Wt W:World} {T:Nat} {a:Option Addr} {c:Nat} {l:List Int} {ga:Option Addr} {gc:Nat} {ks:List KV} (h:Iz Wt T a c l ga gc ks W):iI W ga gc ks∧My Wt.heap.size ga ks:=by
 obtain ⟨ra,rc,sK,Bb,Ey⟩:=h.own.recs (by decide);simp only [Value.slice.injEq,List.length_map]at sK;obtain ⟨rfl,-,rfl⟩:=sK;exact ⟨⟨Bb,fun k hk=>(h.row k hk).1⟩,⟨fun p hp=>(h.jQ p hp).1,fun k hk p hp=>((h.row k hk).2 p hp).1⟩⟩
theorem Xj {w:World} {Z:Nat} (h:aJ w Z 3 [i64 2,i64 0,i64 2,i64 1]) (v:Int) (h0:0≤v) (h1:v<4): ∃(k:Nat) (z:Int),v=(k:Int)∧w.cell? ⟨Z,k,none⟩=some (i64 z)∧(0≤z∧z≤2):=by
 obtain ⟨k,rfl⟩: ∃k:Nat,v=(k:Int):=⟨v.toNat,by omega⟩;match k,h1 with
 |0,_=>exact ⟨0,2,rfl,(h.cell 0).trans rfl,by decide⟩
 |1,_=>exact ⟨1,0,rfl,(h.cell 1).trans rfl,by decide⟩
 |2,_=>exact ⟨2,2,rfl,(h.cell 2).trans rfl,by decide⟩
 |3,_=>exact ⟨3,1,rfl,(h.cell 3).trans rfl,by decide⟩
 |k+4,h1=>omega
theorem yY (V:World) (c:ai) (a:Option Addr) (kc:Nat) (ks:List KV) (ra:Option Addr) (rc:Nat) (raw:List Int) (which:Int) (hc:aS V c) (hk:iI V a kc ks) (hr:aD V ra rc raw) (hw:bp which) (hh:0≤c.hours∧c.hours≤1000) (hu:c.au.length≤1000):
 Calls prog 25 #[.agg (C8 c),.slice a ks.length kc,.slice ra raw.length rc,i64 which] V fun e w'=> ∃(a':Option Addr) (PT:Nat) (Km:List KV),e= .returned (.slice a' Km.length PT)∧iI w' a' PT Km∧Ext V w'∧((a'=a∧Km=ks)∨My V.heap.size a' Km):=by
 try unfold C8
 have FZ:=hk.le;have xR:=hk.recs.cap
 have IA:=hc.au.le;have Mz:=hc.au.cap
 rw [List.length_map]at IA;have adm:=hr.le;have aav:=hr.cap
 have HK:=ae hk;have HR:=ae hr
 have De:=ae (fun U=>uq U which 4 hw.1 (by have:=hw.2;omega) (by decide) (by decide));have GV:=ae (ur which 4 (by decide));obtain ⟨m,hm⟩: ∃m,m=CD which 4:=⟨_,rfl⟩;rw [←hm]at De GV;obtain ⟨NH,hnh⟩: ∃NH:Nat,c.hours=(NH:Int):=⟨c.hours.toNat,by omega⟩;have HNH:=ae hnh;have Kb:Hid (NH≤1000):=by show _≤_;omega
 have Kn:=ae hu;clear hc hk hr hw hh hm hnh hu;go_enter func25,ntmps25
 go_upto_region 1 with fail
 obtain ⟨W,hW,x0,Z0,A0⟩:=aH V 32 c.cells;rw [show V.alloc (.cells (C8 c) 32)=W from hW.symm];obtain ⟨B,hB⟩: ∃B,B=V.heap.size:=⟨_,rfl⟩;rw [←hB]at A0⊢;have ZT:Hid (V.heap.size≤B):=by show _≤_;omega
 have HX:=ae x0;have HA:=ae A0
 clear hW x0 Z0 A0 hB;go_wp2_with fail
 refine (De.o W).mono ?_;rintro e w1 ⟨rfl,rfl⟩;clear De;by_cases h0:m=0
 ·have t0:(m==0)=true:=beq_iff_eq.2 h0
  clear h0;go_wp2_with fail
  go_ret;exact ⟨none,0,[],rfl,⟨⟨Nat.le_refl _,by decide,fun i hi=>absurd hi (Nat.not_lt_zero _)⟩,fun k hk=>by cases hk⟩,HX.o,.inr ⟨(fun p hp=>by cases hp),(fun k hk=>by cases hk)⟩⟩
 have t0:(m==0)=false:=beq_eq_false_iff_ne.2 h0;by_cases h1:m=1
 ·have t1:(m==1)=true:=beq_iff_eq.2 h1
  clear h0 h1;go_wp2_with fail
  go_ret;exact ⟨a,kc,ks,rfl,HK.o.ext HX.o,HX.o,.inl ⟨rfl,rfl⟩⟩
 have t1:(m==1)=false:=beq_eq_false_iff_ne.2 h1;clear h0 h1 HK GV FZ xR;go_wp2_with fail
 refine (Ii W ra rc raw).mono ?_;rintro e Wt ⟨rfl,hT,xx⟩;obtain ⟨T,R1⟩: ∃T,T=W.heap.size:=⟨_,rfl⟩;rw [←R1]at hT⊢;have mU:Hid (V.heap.size≤T):=by have:=HX.o.size;show _≤_;omega
 have Dj:Hid (B≠T):=by have:=HA.o.lt;show _≠_;omega
 replace HX:=ae (HX.o.trans xx);replace HA:=ae (HA.o.ext xx);have HT:=ae hT
 have fM:=ae hT.lt;have fL:=ae (fun U (x:ar T Wt U) (hU:aY U T ra rc raw)=>p8 V U T ra rc raw 4 mU.o (x.ext HX.o mU.o) HR.o hU (by decide) (by decide));clear hT R1 xx t0 t1;go_wp2_with fail
 go_loopw [10,11] (fun v ii wr=> ∃(k:Nat) (ga:Option Addr) (gc:Nat) (ls:List KV),k≤c.au.length∧ls.length=k∧Iz Wt T ra rc raw ga gc ls wr∧v= .slice ga ls.length gc∧ii= .int .i64 k) (fun _ ii _=>c.au.length-(intOf ii).toNat)
 case atStart=>exact ⟨0,none,0,[],Nat.zero_le _,rfl,⟨HT.o,ar.refl _ _,aN.nil _ _ _ _,(fun k hk=>by cases hk),fM.o⟩,rfl,rfl⟩
 case round=>
  clear HT;obtain ⟨i,ga,gc,ls,hi,iG,hW,rfl,rfl⟩:=hrel;obtain ⟨k0,-,-,-,k4,-⟩:=ai.at (HA.o.but hW.x Dj.o);by_cases hlt:i<c.au.length
  ·have fU:(i:Int)<(c.au.length:Int):=by omega
   have HW:=ae hW;have wA:=ae iG
   clear hW iG;go_wp2_with fail
   clear k0 k4;obtain ⟨wo,Dl⟩: ∃wo:World,wo=wr:=⟨_,rfl⟩;subst Dl;go_loopw [12,13] (fun v ii wr=> ∃(j:Nat) (hs:List Int),j≤NH∧hs.length=j∧(∀x∈hs,0≤x∧x≤2)∧aN wr wo.heap.size 3 1 v (dH hs)∧jX wo T ra rc raw wr∧ii= .int .i64 j) (fun _ ii _=>NH-(intOf ii).toNat)
   case atStart=>exact ⟨0,[],Nat.zero_le _,rfl,fun x hx=>absurd hx (by simp),aN.nil _ _ _ _,⟨HW.o.tape,ar.refl _ _⟩,rfl⟩
   case round=>
    obtain ⟨j,hs,hj,yy,hrg,hown,⟨hT,hx⟩,rfl⟩:=hrel;obtain ⟨k0,-,-,-,k4,-⟩:=ai.at (HA.o.but (HW.o.x.trans hx) Dj.o);rw [HNH.o]at k0;by_cases hlj:j<NH
    ·have Nh:(j:Int)<(NH:Int):=by omega
     have hn1:=Kb.o;obtain ⟨Y1,hY1,xa,-,A1⟩:=aH wr 3 [i64 2,i64 0,i64 2,i64 1];have HTw:Hid (T<wo.heap.size):=HW.o.tape.lt;have HN:=ae (fL.o Y1 ((HW.o.x.trans hx).trans (xa.but T)) (hT.ext xa));have HO:=ae (hown.ext xa);have fJ:=ae (hx.trans (xa.but T));have Wc:=ae hrg;have UI:=ae yy;have Xk:=ae A1
     obtain ⟨Z,hZ⟩: ∃Z,Z=wr.heap.size:=⟨_,rfl⟩;rw [←hZ]at Xk;have HZT:Hid (Z≠T):=by have:=hT.lt;show _≠_;omega
     have HYe:=ae hY1;have HZe:=ae hZ
     clear hown hx hT hrg yy xa A1 hY1 hZ;go_wp2_with fail
     rw [show wr.alloc (.cells #[i64 2,i64 0,i64 2,i64 1] 3)=Y1 from HYe.o.symm,show wr.heap.size=Z from HZe.o.symm];refine HN.o.mono ?_;rintro e W1 ⟨v,rfl,hv,Ee,hx1⟩;obtain ⟨q,z,hvq,z0,hz⟩:=Xj (Xk.o.but hx1 HZT.o) v hv.1 hv.2;have bq0:(0:Int)≤(q:Int):=by omega
     have bq1:(q:Int)<4:=by omega
     rw [hvq];have PM:=ae hz;have lW:=ae Ee;replace fJ:=ae (fJ.o.trans hx1)
     have K1:Hid (aN W1 wo.heap.size 3 1 u12 (dH hs)):=HO.o.but hx1 HTw.o
     have HOW:Hid (W1.ownsRow wo.heap.size 3 1 u12 hs.length (dH hs).flatten):=by
      have h5:=K1.o.own;rw [eM]at h5;exact h5
     have hsz:=fJ.o.size;clear hv hvq hz Ee hx1 HN HYe HZe Xk HZT k0 k4;go_wp2_with (at_builtin;refine aW _ rfl (.tmp 36) (.tmp 42) 22 rfl wo.heap.size 3 (.int .i64 0) 1 8 underlying22 Tryz.info_int rfl (by decide) u12 hs.length (dH hs).flatten rfl ?c1 (some ⟨W1.heap.size,0,none⟩) 1 1 [i64 z] rfl rfl ?c2 ?c3 ?c4 ?c5 (by decide) ?c6 ?_;rotate_right;intro v1 w5 ho he hb hz hv)
     case c1=>exact bq HOW.o ((Ext.refl _).alloc _)
     case c2=>exact fun _=>⟨_,rfl,cu W1 3 [i64 z]⟩
     case c3=>intro u hu;rw [List.mem_singleton]at hu;subst hu;rfl
     case c4=>intro e;cases e
     case c5=>have:=UI.o;omega
     case c6=>simp;omega
     have kd:=HOW.o.lt;have QT:=HTw.o;have xT:aY w5 T ra rc raw:=aY.keep (lW.o.ext ((Ext.refl W1).alloc _)) (hb.o T (by have:=lW.o.lt;simp;omega) (fun e=>by have:=(kd T e.symm).1;omega));have xX:ar T wo w5:=ar.append (fJ.o.alloc' _) (Nat.le_refl _) (fun k e=>(kd k e).1) he.o hb.o hz.o;have i5:=K1.o.snoc (w':=w5) (v':=v1) (r:= [i64 z]) rfl (by rw [eM];exact ho.o);rw [←pS]at i5;have tU:=ae (And.intro i5 (And.intro xT xX))
     have Mr:Hid (∀x∈hs++ [z],0≤x∧x≤2):=fun x hx=>by
      rcases List.mem_append.1 hx with h|h
      ·exact Wc.o x h
      ·rw [List.mem_singleton]at h;rw [h];exact PM.o
     clear xT xX i5 kd ho he hb hz hv QT;exact ⟨⟨j+1,hs++ [z],by omega,by rw [List.length_append,UI.o];rfl,Mr.o,tU.o.1,tU.o.2,by go_num⟩,by simp only [intOf];omega⟩
    ·obtain rfl:j=NH:=by omega
     obtain ⟨b,cap,rfl,hS,jU⟩:=hown.recs (by decide);rw [eM,yy];have UI:=ae yy;have HI:Hid (aD wr b cap hs):=aD.nk hS (fun z hz=>by have:=hrg z hz;unfold bp;omega)
     have HB:Hid (∀p,b=some p→Wt.heap.size≤p.block∧p.block<wr.heap.size∧ ∀q,ga=some q→p.block≠q.block):=fun p hp=>by
      have h1:=jU p hp;have h2:=(hown.own.lt p.block (by rw [hp];rfl)).2;have h3:=HW.o.x.size;exact ⟨by omega,h2,fun q hq=>by have:=(HW.o.jQ q hq).2;omega⟩
     have UJ:=ae (HW.o.next hT hx);have hsz:=UJ.o.x.size
     have HOW:Hid (wr.ownsRow Wt.heap.size 22 1 (.slice ga ls.length gc) ls.length (ls.map KV.cells).flatten):=by
      have h5:=UJ.o.own.own;rw [List.length_map]at h5;exact h5
     clear hown hS jU hT hx hrg k4 yy;go_wp2_with (at_builtin;refine aW _ rfl (.tmp 44) (.tmp 46) 59 rfl Wt.heap.size 22 (.slice none 0 0) 1 24 underlying59 Tryz.info_ints rfl (by decide) (.slice ga ls.length gc) ls.length (ls.map KV.cells).flatten rfl ?c1 (some ⟨wr.heap.size,0,none⟩) 1 1 [.slice b j cap] rfl rfl ?c2 ?c3 ?c4 ?c5 (by decide) ?c6 ?_;rotate_right;intro v1 w5 ho he hb hz hv)
     case c1=>exact bq HOW.o ((Ext.refl _).alloc _)
     case c2=>exact fun _=>⟨_,rfl,cu wr 22 [.slice b j cap]⟩
     case c3=>intro u hu;rw [List.mem_singleton]at hu;subst hu;rfl
     case c4=>intro e;cases e
     case c5=>have:=wA.o;have:=Kn.o;omega
     case c6=>simp;omega
     have HW5:=ae ((UJ.o.next (UJ.o.tape.ext ((Ext.refl _).alloc _)) (((Ext.refl wr).alloc (.cells #[.slice b j cap] 22)).but T)).push (HI.o.ext ((Ext.refl _).alloc _)) (fun p hp=>by have h1:=HB.o p hp;exact ⟨h1.1,by simp;omega,h1.2.2⟩) (by rw [UI.o];exact ho.o) he.o hb.o hz.o hv.o);clear ho he hb hz hv;obtain ⟨g2,k2,rfl,hw2⟩:=HW5.o;have HW6:=ae hw2;have nU:Hid ((ls++ [(⟨b,cap,hs⟩:KV)]).length=i+1):=by have:=wA.o;show _=_;simp;omega
     clear hw2 HW5;exact ⟨⟨i+1,g2,k2,ls++ [⟨b,cap,hs⟩],by omega,nU.o,HW6.o,rfl,by go_num⟩,by simp only [intOf];omega⟩
  ·obtain rfl:i=c.au.length:=by omega
   have HW:=ae hW;clear hW iG;go_wp2_with fail
   go_ret;have hd:=HW.o.done;exact ⟨ga,gc,ls,rfl,hd.1,HW.o.x.ext HX.o mU.o,.inr ⟨fun p hp=>by have:=hd.2.own p hp;have:=HX.o.size;omega,fun k hk p hp=>by have:=hd.2.row k hk p hp;have:=HX.o.size;omega⟩⟩
def km (c:ai) (i:Nat):Nat×Nat:=((j9 c i).1.toNat,(j9 c i).2.toNat)
def kept (c:ai) (l:List Nat) (gone:List Int) (k:Nat):List (Nat×Nat):=((l.take k).filter fun(i:Nat)=> !hasB gone (i:Int)).map (km c)
theorem nY (c:ai) (l:List Nat) (gone:List Int) {k:Nat} (h:k<l.length):kept c l gone (k+1)=if hasB gone (l[k]:Int)=true then kept c l gone k else kept c l gone k++ [km c l[k]]:=by
 unfold kept;rw [List.take_succ_eq_append_getElem h,List.filter_append];cases q:hasB gone (l[k]:Int)<;>simp [q]
theorem IB (v:Int):hasB [] v=false:=rfl
theorem Bh (a b:List Int) (v:Int):hasB (a++b) v=(hasB a v||hasB b v):=by unfold hasB;rw [List.any_append]
theorem nC (l:List Nat) (out:List Int) (m:Nat): ∀N,hasB (bU (eU l out N)) (m:Int)=(decide (m<N)&&hasB out ((l.getD m 0:Nat):Int))
 |0=>by simp [eU,bU,hasB]
 |N+1=>by
  unfold eU;by_cases q:hasB out ((l.getD N 0:Nat):Int)=true
  ·rw [if_pos q]
   have h1:bU (eU l out N++ [N])=bU (eU l out N)++ [(N:Int)]:=by simp [bU]
   rw [h1,Bh,nC l out m N];by_cases hm:m=N
   ·subst hm
    rw [q];simp [hasB]
   ·have h2:hasB [(N:Int)] (m:Int)=false:=by simp [hasB];omega
    have h3:decide (m<N+1)=decide (m<N):=by rw [Bool.eq_iff_iff];simp;omega
    rw [h2,h3,Bool.or_false]
  ·rw [if_neg q,nC l out m N]
   by_cases hm:m=N
   ·subst hm
    have q':hasB out ((l.getD m 0:Nat):Int)=false:=by simpa using q
    rw [q'];simp
   ·have h3:decide (m<N+1)=decide (m<N):=by rw [Bool.eq_iff_iff];simp;omega
    rw [h3]
theorem xS (c:ai) (l:List Nat) (out:List Int): ∀m,m≤l.length→jx (l.map (km c)) (bU (eU l out l.length)) m=kept c l out m
 |0,_=>rfl
 |m+1,h=>by
  unfold jx;rw [xS c l out m (by omega),nC,nY c l out (show m<l.length by omega)];have h1:l.getD m 0=l[m]:=by rw [List.getD_eq_getElem?_getD,List.getElem?_eq_getElem (by omega)];rfl
  have h2:(l.map (km c)).getD m (0,0)=km c l[m]:=by
   rw [List.getD_eq_getElem?_getD,List.getElem?_eq_getElem (by rw [List.length_map];omega)];simp
  have h3:decide (m<l.length)=true:=by simp;omega
  rw [h1,h2,h3,Bool.true_and]
theorem IC (c:ai) (l:List Nat):kept c l [] l.length=l.map (km c):=by
 unfold kept;rw [List.take_length,List.filter_eq_self.2 (fun i _=>by rw [IB];rfl)]
theorem yZ (c:ai) (h:Int) (x:bB):
 (((comps c.ak.length (kept c (cC c h c.lines.length) x.lines (cC c h c.lines.length).length):Nat):Int)==((comps c.ak.length (kept c (cC c h c.lines.length) [] (cC c h c.lines.length).length):Nat):Int))= !jI c h x:=by
 unfold jI H6 jm;obtain ⟨l,hl⟩: ∃l,l=cC c h c.lines.length:=⟨_,rfl⟩;rw [←hl];have he:(l.map fun i=>((j9 c i).1.toNat,(j9 c i).2.toNat))=l.map (km c):=rfl;rw [he,List.length_map,xS c l x.lines l.length (Nat.le_refl _),IC]
 have hle:comps c.ak.length (l.map (km c))≤comps c.ak.length (kept c l x.lines l.length):=by
  apply C3;intro p hp;unfold kept at hp;obtain ⟨i,hi,rfl⟩:=List.mem_map.1 hp;exact List.mem_map_of_mem (List.mem_of_mem_take (List.mem_filter.1 hi).1)
 rw [Bool.eq_iff_iff];simp only [beq_iff_eq,Bool.not_eq_true',decide_eq_false_iff_not];omega
structure fp (c:ai) (n:Nat) (l:List Nat) (gone:List Int) (k:Nat) (f:Nat→Nat):Prop where
 tells:j_ n (kept c l gone k) f
 lt: ∀b,b<n→f b<n
theorem fp.zero (c:ai) (n:Nat) (l:List Nat) (gone:List Int):fp c n l gone 0 (fun b=>b):=⟨j_.nil n,fun _ h=>h⟩
theorem NU (n:Nat):cls (fun b=>b) n=n:=by
 induction n with
 |zero=>rfl
 |succ n ih=>
  rw [pP,ih,if_pos];rw [fE];intro k hk;omega
theorem fp.same {c:ai} {n:Nat} {l:List Nat} {gone:List Int} {k:Nat} {f:Nat→Nat} (h:fp c n l gone k f) (hk:k<l.length) (hx:(km c l[k]).1<n) (hy:(km c l[k]).2<n) (e:f (km c l[k]).1=f (km c l[k]).2):fp c n l gone (k+1) f:=by
 refine ⟨?_,h.lt⟩;rw [nY c l gone hk];split
 ·exact h.tells
 ·exact h.tells.skip hx hy e
theorem fp.gone {c:ai} {n:Nat} {l:List Nat} {gone:List Int} {k:Nat} {f:Nat→Nat} (h:fp c n l gone k f) (hk:k<l.length) (e:hasB gone (l[k]:Int)=true):fp c n l gone (k+1) f:=by
 refine ⟨?_,h.lt⟩;rw [nY c l gone hk,if_pos e];exact h.tells
theorem fp.join {c:ai} {n:Nat} {l:List Nat} {gone:List Int} {k:Nat} {f:Nat→Nat} (h:fp c n l gone k f) (hk:k<l.length) (hx:(km c l[k]).1<n) (hy:(km c l[k]).2<n) (e:f (km c l[k]).1≠f (km c l[k]).2) (g:hasB gone (l[k]:Int)=false):
 fp c n l gone (k+1) (merge f (f (km c l[k]).1) (f (km c l[k]).2))∧cls (merge f (f (km c l[k]).1) (f (km c l[k]).2)) n+1=cls f n:=by
 refine ⟨⟨?_,?_⟩,j_.C1 hx hy e⟩
 ·rw [nY c l gone hk,if_neg (by rw [g];simp)]
  exact h.tells.join hx hy e
 ·intro b hb
  unfold merge;split
  ·exact h.lt _ hx
  ·exact h.lt b hb
end Go.Proofs.YtkpngkdgphojlaaGreat
