/- Texts of the proof. -/
import Derived.Test.YtfokdakioeoniaaGreatCj35
import Derived.Test.YtfokdakioeoniaaGreatCj41
set_option linter.all false
set_option maxHeartbeats 4000000
set_option maxRecDepth 100000
namespace Go.Proofs.YtfokdakioeoniaaGreat
open Go.Proofs.Tryz
open Go.RowKit
theorem Pt (V:World) (c:aq) (hc:bK V c) (hl:kU c):
 Calls prog 134 #[.agg (C8 c)] V λe w'=>e= .returned (.bool (cC c==0))/\Ext V w':=by
 try unfold C8
 have p7:=af (λU (x:Ext V U)=>sI U c (hc.ext x) hl);obtain ⟨ce,hce⟩: ∃ce,ce=cC c:=⟨_,rfl⟩;rw [<-hce];have HCQ:=af hce;clear hc hl hce;go_enter func134,ntmps134
 go_upto_region 1 with fail
 generalize hW:World.alloc V _=W;obtain ⟨B,hB,x,A⟩:=aI hW;rw [<-hB];have HX:=af x;have k0:=aq.at A;clear hW hB x A;go_wp2_with fail
 refine (p7.o W HX.o).mono ?_;rintro e w1 ⟨ek,ei,ef,rfl,xx⟩;clear p7 k0;rw [<-HCQ.o];go_upto_region 2 with fail
 generalize hW2:World.alloc w1 _=W2;obtain ⟨B2,-,x2,-⟩:=aI hW2;have kz:=af (HX.o.trans (xx.trans x2));clear hW2 xx x2;go_wp2
 go_ret;exact ⟨rfl,kz.o⟩
theorem Pu (V:World) (c:aq) (s:aQ) (L:Nat) (hc:bK V c) (hl:kU c) (h0:cC c=0) (hA:Acc c) (hs:eM V s L):
 Calls prog 41 #[.agg (C8 c),.agg s.cells.toArray] V (DU V (eY c s)):=by
 try unfold C8
 have p7:=af (λU (x:Ext V U)=>px U c (hc.ext x) hl);have kX:=af (λU (x:Ext V U)=>Gp U c s L (hc.ext x) hA (hs.ext x));rw [h0]at p7;clear hc hl h0 hA hs;unfold aQ.cells;go_enter func41,ntmps41
 go_upto_region 1 with fail
 generalize hW1:World.alloc V _=W1;generalize hW:World.alloc W1 _=W;obtain ⟨G,R,hG,hR,HX,dY,gH,nW⟩:=jD hW1 hW;rw [<-hG];try rw [hR]
 clear hW hW1 hG hR;have K: ∀Y,Ext W Y->_:=λY e=>aq.at (dY.o.ext e);have K1: ∀Y,Ext W Y->_:=λY e=>(gH.o.ext e).cs;replace K1:=jo K1;have st:=Ext.refl W;go_wp2_with fail
 refine (p7.o W HX.o).mono ?_;rintro e w1 ⟨ek,ei,ef,rfl,xx⟩;clear p7;replace st:=st.trans xx;clear xx;go_upto_region 2 with fail
 generalize hW2:World.alloc w1 _=W2;obtain ⟨B2,-,x2,-⟩:=aI hW2;replace st:=st.trans x2;clear hW2 x2;go_wp2_with fail
 refine (kX.o W2 (HX.o.trans st)).mono ?_;rintro e w3 ⟨t,rfl,ht,x3⟩;have HT:=af ht;replace st:=st.trans x3;clear x3 ht;go_wp2
 go_ret;exact ⟨t,rfl,HT.o,HX.o.trans st⟩
theorem MG (V:World) (c:aq) (s:aQ) (L:Nat) (hc:bK V c) (hl:kU c) (h0:cC c=0) (hA:Acc c) (hs:eM V s L):
 Calls prog 60 #[.agg (C8 c),.agg s.cells.toArray] V (DU V (eY c s)):=by
 try unfold C8
 have Rm:=af hs;have Yg:=af (λU (x:Ext V U)=>Pt U c (hc.ext x) hl);have Nx:Hid (∀U,Ext V U->_):=λU hU=>MB U c s.ma s.mc s.moves (hc.ext hU) hl h0 hA (hs.ext hU).moves;have HT:Hid (∀U,Ext V U-> ∀t n,t∈ [s.cB,s.disch,s.level,s.imp,s.er,s.shift]->Calls prog 135 #[.slice t.a t.l.length t.c,.int .i64 n,.int .i64 c.hours] U λe w'=>e= .returned (.bool (cE t n c.hours))/\Ext U w'):=λU hU t n ht=>Pc U t n c.hours L ((hs.ext hU).kT t ht);rw [h0]at Yg;have hle:=hs.ay.lens;have nE:=hc.ay.lens;have Pe:=hc.stores.lens;have pj:=hc.bF.lens;have Ar:=hc.ar.lens;have Gn:=hc.lines.lens
 clear hc hl h0 hA hs;unfold aQ.cells;go_enter func60,ntmps60
 go_upto_region 1 with fail
 generalize hW1:World.alloc V _=W1;generalize hW:World.alloc W1 _=W;obtain ⟨G,R,hG,hR,HX,dY,gH,nW⟩:=jD hW1 hW;rw [<-hG];try rw [hR]
 clear hW hW1 hG hR;have K: ∀Y,Ext W Y->_:=λY e=>aq.at (dY.o.ext e);have K1: ∀Y,Ext W Y->_:=λY e=>(gH.o.ext e).cs;replace K1:=jo K1;have st:=Ext.refl W;go_wp2_with fail
 refine (Yg.o W HX.o).mono ?_;rintro e w1 ⟨rfl,xx⟩;clear Yg;replace st:=st.trans xx;clear xx;by_cases hn:(s.ay.length:Int)=(c.ay.length:Int)
 case neg=>
  have hq:((s.ay.length:Int) !=(c.ay.length:Int))=true:=by simpa using hn
  have HN:=af hn;clear hn;go_wp2
  go_ret;refine ⟨false,rfl,?_,HX.o.trans st⟩;simp only [Bool.false_eq_true,false_iff];intro q;exact HN.o (by rw [q.ay])
 have hq:((s.ay.length:Int) !=(c.ay.length:Int))=false:=by simpa using hn
 have HN:=af hn;clear hn;go_wp2_with fail
 clear hq;go_loopw [5] (λii wr=> ∃i:Nat,i<=s.ay.length/\ii= .int .i64 i/\Kw c s i/\Ext W wr) (λii _=>s.ay.length-(intOf ii).toNat)
 case atStart=>exact ⟨0,bm,rfl,λj _ h=>absurd h (Nat.not_lt_zero _),st⟩
 case round=>
  clear st;obtain ⟨i,hi,rfl,hB,st⟩:=hrel;have HB:=af hB;clear hB;by_cases hlt:i<s.ay.length
  .have b1:(i:Int)<(s.ay.length:Int):=ae
   have b0:(0:Int)<=(i:Int):=ae;obtain ⟨b,o,x,hx,K2⟩:=eZ (gH.o.ext st) (Rm.o.ext (HX.o.trans st)).ay 0 rfl i hlt;replace K2:=jo K2;have KH: ∀Y,Ext wr Y->Y.cell? ⟨G,0,none⟩=some (i64 c.hours):=λY e=>(aq.at ((dY.o.ext st).ext e)).1;have s0:=Ext.refl wr;clear K K1;go_upto_region 7 with(refine aT rfl 41 _ _ rfl [.slice none 0 0,.slice none 0 0,.slice none 0 0] x.cells rfl rfl aw rfl rfl ?_)
   generalize hW2:World.alloc wr _=W2;obtain ⟨B,hB,x2,A2⟩:=aI hW2;rw [<-hB];try simp only [Act.put]
   have KB: ∀Y,Ext W2 Y->_:=λY e=>(A2.ext e).cs;replace KB:=jo KB;replace KH: ∀Y,Ext W2 Y->Y.cell? ⟨G,0,none⟩=some (i64 c.hours):=λY e=>KH Y (x2.trans e);have mf:=af (st.trans x2);clear hW2 hB A2 s0 K2 st;have s0:=Ext.refl W2;by_cases q1:(x.states.length:Int)=c.hours
   case neg=>
    have h1:((x.states.length:Int) !=c.hours)=true:=by simpa using q1
    go_wp2
    go_ret;refine ⟨false,rfl,?_,HX.o.trans mf.o⟩;simp only [Bool.false_eq_true,false_iff];intro q;have:=q.unit _ (List.getElem_mem hlt);rw [<-hx.o]at this;exact q1 this.1
   have h1:((x.states.length:Int) !=c.hours)=false:=by simpa using q1
   by_cases q2:(x.e.l.length:Int)=c.hours
   case neg=>
    have vD:=af q1;clear q1;have h2:((x.e.l.length:Int) !=c.hours)=true:=by simpa using q2
    go_wp2
    go_ret;refine ⟨false,rfl,?_,HX.o.trans mf.o⟩;simp only [Bool.false_eq_true,false_iff];intro q;have:=q.unit _ (List.getElem_mem hlt);rw [<-hx.o]at this;exact q2 this.2.1
   have h2:((x.e.l.length:Int) !=c.hours)=false:=by simpa using q2
   by_cases q3:(x.r.l.length:Int)=c.hours
   case neg=>
    have vD:=af q1;have CZ:=af q2
    clear q1 q2;have h3:((x.r.l.length:Int) !=c.hours)=true:=by simpa using q3
    go_wp2
    go_ret;refine ⟨false,rfl,?_,HX.o.trans mf.o⟩;simp only [Bool.false_eq_true,false_iff];intro q;have:=q.unit _ (List.getElem_mem hlt);rw [<-hx.o]at this;exact q3 this.2.2
   have h3:((x.r.l.length:Int) !=c.hours)=false:=by simpa using q3
   have HQ:=af (And.intro q1 (And.intro q2 q3));clear q1 q2 q3;go_wp2
   exact ⟨⟨i+1,hlt,bq,λj hj qF=>by
    by_cases e:j<i
    .exact HB.o j hj e
    .obtain rfl:j=i:=ae
     rw [<-hx.o];exact HQ.o,mf.o⟩,bz⟩
  .obtain rfl:i=s.ay.length:=ae
   have s0:=st
   have OW:Hid (∀(b:Bool),(b=true↔cE s.cB c.stores.length c.hours=true/\cE s.disch c.stores.length c.hours=true/\cE s.level c.stores.length c.hours=true/\cE s.imp c.bF.length c.hours=true/\cE s.er c.ar.length c.hours=true/\cE s.shift c.lines.length c.hours=true/\fp c s.moves)->(b=true↔eY c s)):=λb h=>h.trans ⟨λ⟨h1,h2,h3,h4,h5,h6,h7⟩=>⟨dB HN.o,λp hp=>by
    obtain ⟨j,hj,rfl⟩:=List.mem_iff_getElem.1 hp;exact HB.o j hj hj,h1,h2,h3,h4,h5,h6,h7⟩,λq=>⟨q.cB,q.disch,q.level,q.imp,q.er,q.shift,q.moves⟩⟩
   have hcs:(cE s.cB c.stores.length c.hours=false)\/(cE s.cB c.stores.length c.hours=true/\cE s.disch c.stores.length c.hours=false)\/(cE s.cB c.stores.length c.hours=true/\cE s.disch c.stores.length c.hours=true/\cE s.level c.stores.length c.hours=false)\/(cE s.cB c.stores.length c.hours=true/\cE s.disch c.stores.length c.hours=true/\cE s.level c.stores.length c.hours=true/\cE s.imp c.bF.length c.hours=false)\/(cE s.cB c.stores.length c.hours=true/\cE s.disch c.stores.length c.hours=true/\cE s.level c.stores.length c.hours=true/\cE s.imp c.bF.length c.hours=true/\cE s.er c.ar.length c.hours=false)\/(cE s.cB c.stores.length c.hours=true/\cE s.disch c.stores.length c.hours=true/\cE s.level c.stores.length c.hours=true/\cE s.imp c.bF.length c.hours=true/\cE s.er c.ar.length c.hours=true/\cE s.shift c.lines.length c.hours=false)\/(cE s.cB c.stores.length c.hours=true/\cE s.disch c.stores.length c.hours=true/\cE s.level c.stores.length c.hours=true/\cE s.imp c.bF.length c.hours=true/\cE s.er c.ar.length c.hours=true/\cE s.shift c.lines.length c.hours=true):=by
    cases cE s.cB c.stores.length c.hours<;>cases cE s.disch c.stores.length c.hours<;>cases cE s.level c.stores.length c.hours<;>cases cE s.imp c.bF.length c.hours<;>cases cE s.er c.ar.length c.hours<;>cases cE s.shift c.lines.length c.hours<;>simp
   clear HN HB st;rcases hcs with q1|⟨q1,q2⟩|⟨q1,q2,q3⟩|⟨q1,q2,q3,q4⟩|⟨q1,q2,q3,q4,q5⟩|⟨q1,q2,q3,q4,q5,q6⟩|⟨q1,q2,q3,q4,q5,q6⟩;all_goals go_wp2_with (first|(go_at_call 135;refine (HT.o _ (HX.o.trans s0) _ _ aX).mono ?_;rintro e w ⟨rfl,hx⟩;replace s0:=s0.trans hx;clear hx)|(go_at_call 54;refine (Nx.o _ (HX.o.trans s0)).mono ?_;rintro e w ⟨tm,rfl,Yu,hx⟩;have Yv:=af Yu;replace s0:=s0.trans hx;clear hx Yu))
   all_goals go_ret
   iterate 6 (case' _=>exact ⟨false,rfl,OW.o false ⟨λh=>(nomatch h),λ⟨h1,h2,h3,h4,h5,h6,_⟩=>by first|exact absurd (h1.symm.trans q1) ai|exact absurd (h2.symm.trans q2) ai|exact absurd (h3.symm.trans q3) ai|exact absurd (h4.symm.trans q4) ai|exact absurd (h5.symm.trans q5) ai|exact absurd (h6.symm.trans q6) ai⟩,HX.o.trans s0⟩)
   exact ⟨tm,rfl,OW.o tm ⟨λh=>⟨q1,q2,q3,q4,q5,q6,Yv.o.1 h⟩,λh=>Yv.o.2 h.2.2.2.2.2.2⟩,HX.o.trans s0⟩
open Classical in
noncomputable def GF (c:aq) (s:aQ) (h o:Int):Int:=if eY c s then(if(0<=h/\h<c.hours)/\(o= -1\/Jb c h o)then 0 else 12)else 4
theorem MH {c:aq} {s:aQ} {h o:Int} (q: ¬eY c s):GF c s h o=4:=by unfold GF;rw [if_neg q]
theorem Js {c:aq} {s:aQ} {h o:Int} (q:eY c s) (r: ¬((0<=h/\h<c.hours)/\(o= -1\/Jb c h o))):GF c s h o=12:=by unfold GF;rw [if_pos q,if_neg r]
theorem Eh {c:aq} {s:aQ} {h o:Int} (q:eY c s) (r:(0<=h/\h<c.hours)/\(o= -1\/Jb c h o)):GF c s h o=0:=by unfold GF;rw [if_pos q,if_pos r]
theorem Pv (V:World) (c:aq) (s:aQ) (L:Nat) (h o:Int) (hc:bK V c) (hl:kU c) (h0:cC c=0) (hA:Acc c) (hs:eM V s L):
 Calls prog 110 #[.agg (C8 c),.agg s.cells.toArray,.int .i64 h,.int .i64 o] V λe w'=>e= .returned (i64 (GF c s h o))/\Ext V w':=by
 try unfold C8
 have p7:=af (λU (x:Ext V U)=>px U c (hc.ext x) hl);have kX:=af (λU (x:Ext V U)=>Gp U c s L (hc.ext x) hA (hs.ext x));have tq:=af (λU (x:Ext V U)=>Al U c h o (hc.ext x) hA);rw [h0]at p7;clear hc hl h0 hA hs;unfold aQ.cells;go_enter func110,ntmps110
 go_upto_region 1 with fail
 generalize hW1:World.alloc V _=W1;generalize hW:World.alloc W1 _=W;obtain ⟨G,R,hG,hR,HX,dY,gH,nW⟩:=jD hW1 hW;rw [<-hG];try rw [hR]
 clear hW hW1 hG hR;have K: ∀Y,Ext W Y->_:=λY e=>aq.at (dY.o.ext e);have K1: ∀Y,Ext W Y->_:=λY e=>(gH.o.ext e).cs;replace K1:=jo K1;have st:=Ext.refl W;go_wp2_with fail
 refine (p7.o W HX.o).mono ?_;rintro e w1 ⟨ek,ei,ef,rfl,xx⟩;clear p7;replace st:=st.trans xx;clear xx;go_upto_region 2 with fail
 generalize hW2:World.alloc w1 _=W2;obtain ⟨B2,-,x2,-⟩:=aI hW2;replace st:=st.trans x2;clear hW2 x2;go_wp2_with fail
 refine (kX.o W2 (HX.o.trans st)).mono ?_;rintro e w3 ⟨t,rfl,ht,x3⟩;have HT:=af ht;replace st:=st.trans x3;clear x3 ht;cases t with
 |false=>
  go_wp2
  go_ret;exact ⟨by rw [MH (λq=>by have:=HT.o.2 q;cases this)];rfl,HX.o.trans st⟩
 |true=>
 have Tz:=af (HT.o.1 rfl);clear HT;go_wp2_with fail
 refine (CA _ c h).mono ?_;rintro e w4 ⟨rfl,x4⟩;replace st:=st.trans x4;clear x4;cases hq:(decide (0<=h)&&decide (h<c.hours))with
 |false=>
  have HQ:=af hq;clear hq;go_wp2
  go_ret;exact ⟨by rw [Js Tz.o (λq=>by have:=HQ.o;simp at this;have h1:=this q.1.1;omega)];rfl,HX.o.trans st⟩
 |true=>
 have HQ:Hid (0<=h/\h<c.hours):=by show _/\_;simpa using hq
 clear hq;by_cases ho:o= -1
 .subst ho
  go_wp2
  go_ret;exact ⟨by rw [Eh Tz.o ⟨HQ.o,.inl rfl⟩];rfl,HX.o.trans st⟩
 have t1:(o != -1)=true:=by simpa using ho
 have HO:=af ho;clear ho;go_wp2_with fail
 refine (tq.o _ (HX.o.trans st)).mono ?_;rintro e w5 ⟨t,rfl,ht,x5⟩;have HT:=af ht;replace st:=st.trans x5;clear x5 ht;cases t with
 |false=>
  have YJ:Hid (¬Jb c h o):=λr=>by have:=HT.o.2 r;cases this
  clear HT;go_wp2
  go_ret;exact ⟨by rw [Js Tz.o (λq=>q.2.elim HO.o YJ.o)];rfl,HX.o.trans st⟩
 |true=>
  have YJ:=af (HT.o.1 rfl);clear HT;go_wp2
  go_ret;exact ⟨by rw [Eh Tz.o ⟨HQ.o,.inr YJ.o⟩];rfl,HX.o.trans st⟩
