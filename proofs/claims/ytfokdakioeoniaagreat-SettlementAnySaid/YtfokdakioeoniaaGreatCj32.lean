/- Texts of the proof. -/
import Derived.Test.YtfokdakioeoniaaGreatCj21
import Derived.Test.YtfokdakioeoniaaGreatCj31
set_option linter.all false
set_option maxHeartbeats 1000000
namespace Go.Proofs.YtfokdakioeoniaaGreat
open Go.Proofs.Tryz
open Go.RowKit
structure Tj (c:aq) (x:ee):Prop where
 line: ∀l∈x.lines,0<=l/\l<c.lines.length
 lines:x.lines.length<=2
 moves:x.moves.length<=16
 unit: ∀m∈x.moves,0<=m.unit/\m.unit<c.ay.length
 asc:lr (x.moves.map cH.unit)=true
 mv: ∀m∈x.moves,(0<=m.up/\m.up<=1048576)/\(0<=m.down/\m.down<=1048576)
theorem Mo {c:aq} {x:ee} {i:Nat} {e:Int} (h:yz c x i e=0):Tj c x:=by
 unfold yz pS at h;have h1:=bN ai h;have h2:=bN ai h1.1;have h3:=bN ai h2.1;have h4:=bN ai h3.1;have h5:=bN ai h4.1;have h6:=bN ai h5.1;have h7:=bN ai h6.1;have h8:=bN ai h7.1;have h9:=cQ.1 h8.2;refine ⟨λl hl=> ?_,ae,by have:=h4.2;simp at this;omega,λm hm=> ?_,h2.2,λm hm=> ?_⟩
 .have:=vn.1 h7.2 l hl;omega
 .have:=vn.1 h3.2 m.unit (List.mem_map_of_mem hm);omega
 .have:=List.all_eq_true.1 h1.2 m hm
  unfold Ab at this;have:=vn.1 this;exact ⟨this _ aX,this _ aX⟩
structure Acc (c:aq):Prop where
 ok:Ja c
 o: ∀x∈c.outs,Tj c x
def fG (c:aq) (i:Nat):Nat:=((c.ay[i]?.map cw.fc).getD 0).toNat
def ki (c:aq) (i:Nat):Nat:=((c.stores[i]?.map cI.fc).getD 0).toNat
def kL (c:aq) (i:Nat):Nat:=((c.bF[i]?.map gY.fc).getD 0).toNat
def Mp (c:aq) (o:Nat):List Int:=(c.outs[o]?.map ee.lines).getD []
def j5 (c:aq) (o:Nat):List cH:=(c.outs[o]?.map ee.moves).getD []
def yA (c:aq) (o:Nat):Bool:=(c.outs[o]?.map ee.bY).getD false
def kM (c:aq) (h:Int) (o:Nat):Bool:=(Mp c o).any λl=> !hasB (jz c l.toNat) h
theorem yU {c:aq} {o:Nat} (h:o<c.outs.length):Mp c o=c.outs[o].lines:=by unfold Mp;rw [List.getElem?_eq_getElem h];rfl
theorem vo {c:aq} {o:Nat} (h:o<c.outs.length):j5 c o=c.outs[o].moves:=by unfold j5;rw [List.getElem?_eq_getElem h];rfl
theorem yX {c:aq} {o:Nat} (h:o<c.outs.length):yA c o=c.outs[o].bY:=by unfold yA;rw [List.getElem?_eq_getElem h];rfl
theorem sD {c:aq} {i:Nat} (h:i<c.ay.length):fG c i=c.ay[i].fc.toNat:=by unfold fG;rw [List.getElem?_eq_getElem h];rfl
theorem DR {c:aq} {i:Nat} (h:i<c.stores.length):ki c i=c.stores[i].fc.toNat:=by unfold ki;rw [List.getElem?_eq_getElem h];rfl
theorem DT {c:aq} {i:Nat} (h:i<c.bF.length):kL c i=c.bF[i].fc.toNat:=by unfold kL;rw [List.getElem?_eq_getElem h];rfl
structure Jb (c:aq) (h u:Int):Prop where
 hour:0<=h/\h<c.hours
 o:0<=u/\u<c.outs.length
 jO:kM c h u.toNat=true
def h_ (h o h' o':Int):Prop:=h<h'\/(h=h'/\o<o')
structure Cz (c:aq) (r:eF):Prop where
 jO:Jb c r.hour r.br
 O9:yA c r.br.toNat=true
 up:r.up.l.length=(j5 c r.br.toNat).length
 down:r.down.l.length=(j5 c r.br.toNat).length
def sG (c:aq) (ms:List eF) (n:Nat):Prop:= ∀i (h:i<ms.length),i<n->Cz c ms[i]/\(0<i->h_ ms[i-1].hour ms[i-1].br ms[i].hour ms[i].br)
def fp (c:aq) (ms:List eF):Prop:=sG c ms ms.length
structure eY (c:aq) (s:aQ):Prop where
 ay:s.ay.length=c.ay.length
 unit: ∀p∈s.ay,(p.states.length:Int)=c.hours/\(p.e.l.length:Int)=c.hours/\(p.r.l.length:Int)=c.hours
 cB:cE s.cB c.stores.length c.hours=true
 disch:cE s.disch c.stores.length c.hours=true
 level:cE s.level c.stores.length c.hours=true
 imp:cE s.imp c.bF.length c.hours=true
 er:cE s.er c.ar.length c.hours=true
 shift:cE s.shift c.lines.length c.hours=true
 moves:fp c s.moves
structure Gf (c:aq) (m:oK):Prop where
 jO:Jb c m.hour m.br
 O9:yA c m.br.toNat=true
 fc:m.fc.l.length=c.ar.length
def ox (c:aq) (ms:List oK) (n:Nat):Prop:= ∀i (h:i<ms.length),i<n->Gf c ms[i]/\(0<i->h_ ms[i-1].hour ms[i-1].br ms[i].hour ms[i].br)
structure mQ (c:aq) (p:aU):Prop where
 b_:cE p.b_ c.hours c.ar.length=true
 bC:(p.bC.l.length:Int)=c.hours
 moves:ox c p.moves p.moves.length
def DU (V:World) (P:Prop) (e:Ending) (w':World):Prop:= ∃t:Bool,e= .returned (.bool t)/\(t=true↔P)/\Ext V w'
theorem di.pick {α:Type} {f:α->List Value} {l:List α} {w:World} {m:Nat} {a:Option Addr} {c:Nat} (h:di w m a c (l.map f)) (i:Nat) (hi:i<l.length): ∃b o x,a=some ⟨b,o,none⟩/\Hid (x=l[i])/\ ∀Y,Ext w Y->Cs Y b (o+i*m) 0 (f x):=by
 obtain ⟨b,o,ha,hc⟩:=h.cs i hi;refine ⟨b,o,l[i],ha,rfl,λY e=> ?_⟩;clear ha;generalize f l[i]=cs at hc
 revert hc
 generalize 0=j;induction cs generalizing j with
 |nil=>exact λ_=>trivial
 |cons v cs ih=>exact λq=>⟨aB e q.1,ih _ q.2⟩
theorem eZ {α:Type} {f:α->List Value} {l:List α} {W:World} {G m c:Nat} {T:TypeId} {vs:List Value} {a:Option Addr} (A:aY W G T vs) (h:di W m a c (l.map f)) (j:Nat) (hv:vs[j]?=some (.slice a l.length c)) (i:Nat) (hi:i<l.length):
 ∃b o x,Hid (x=l[i])/\ ∀Y,Ext W Y->Y.cell? ⟨G,j,none⟩=some (.slice (some ⟨b,o,none⟩) l.length c)/\Cs Y b (o+i*m) 0 (f x):=by
 obtain ⟨b,o,x,ha,hx,K⟩:=h.pick i hi;rw [ha]at hv;exact ⟨b,o,x,hx,λY e=>⟨by rw [(A.ext e).cell];exact hv,K Y e⟩⟩
theorem jD {w W1 W:World} {T0 T1:TypeId} {c0 c1:List Value} (h1:w.alloc (.cells c0.toArray T0)=W1) (h2:W1.alloc (.cells c1.toArray T1)=W): ∃G R,G=w.heap.size/\G+1=R/\Hid (Ext w W)/\Hid (aY W G T0 c0)/\Hid (aY W R T1 c1)/\Hid (w.heap.size<=G/\w.heap.size<=R/\G<W.heap.size/\R<W.heap.size/\G≠R):=by
 obtain ⟨G,hG,x0,A0⟩:=aI h1;obtain ⟨R,hR,x1,A1⟩:=aI h2;have h:G+1=R:=by rw [hG,hR,<-h1];simp
 have l0:=(A0.ext x1).lt;have l1:=A1.lt
 exact ⟨G,R,hG,h,x0.trans x1,A0.ext x1,A1,(show _/\_ by omega)⟩
theorem di.lens {α:Type} {f:α->List Value} {l:List α} {w:World} {m:Nat} {a:Option Addr} {c:Nat} (h:di w m a c (l.map f)):l.length<=c/\c<=9223372036854775807:=⟨by have:=h.le;rwa [List.length_map]at this,h.cap⟩
theorem DV (V:World) (x:cX) (h:Int) (hI:bV V x.aa x.ac x.away):
 Calls prog 264 #[.agg x.cells.toArray,.int .i64 h] V λe w'=>e= .returned (.bool (!hasB x.away h))/\Ext V w':=by
 have HI:=af hI;clear hI;unfold cX.cells;go_enter func264,ntmps264
 go_upto_region 1 with fail
 generalize hW:World.alloc V _=W;obtain ⟨G,hG,x0,A0⟩:=aI hW;rw [<-hG];have HX:=af x0;have K: ∀Y,Ext W Y->_:=λY e=>cX.at (A0.ext e);have HC:=af (oq W x.aa x.ac x.away h (HI.o.ext x0));have s:=Ext.refl W;clear hW hG x0 A0;go_wp2_with fail
 refine HC.o.mono ?_;rintro e w ⟨rfl,rfl⟩;go_wp2
 go_ret;exact ⟨rfl,HX.o⟩
theorem CA (V:World) (c:aq) (h:Int):
 Calls prog 200 #[.agg (C8 c),.int .i64 h] V λe w'=>e= .returned (.bool (decide (0<=h)&&decide (h<c.hours)))/\Ext V w':=by
 try unfold C8
 go_enter func200,ntmps200
 go_upto_region 1 with fail
 generalize hW:World.alloc V _=W;obtain ⟨G,hG,x0,A0⟩:=aI hW;rw [<-hG];have HX:=af x0;have K: ∀Y,Ext W Y->_:=λY e=>aq.at (A0.ext e);have s:=Ext.refl W;clear hW hG x0 A0;by_cases h0:0<=h
 .go_wp2
  go_ret;exact ⟨by simp [h0],HX.o⟩
 .go_wp2
  go_ret;exact ⟨by simp;intro q;omega,HX.o⟩
theorem Jc (V:World) (t:ku) (n m:Int) (L:Nat) (ht:jW V t L):
 Calls prog 182 #[.slice t.a t.l.length t.c,.int .i64 n,.int .i64 m] V λe w'=>e= .returned (.bool (cE t n m))/\Ext V w':=by
 have hle:=ht.le;have HT:=af ht;clear ht;go_enter func182,ntmps182
 go_wp2
 go_loopw [11] (λii wr=> ∃i:Nat,i<=t.l.length/\ii= .int .i64 i/\(∀j (hj:j<t.l.length),j<i->(t.l[j].l.length:Int)=m)/\Ext V wr) (λii _=>t.l.length-(intOf ii).toNat)
 case atStart=>exact ⟨0,bm,rfl,λj _ h=>absurd h (Nat.not_lt_zero _),ah⟩
 case round=>
  obtain ⟨i,hi,rfl,hA,s⟩:=hrel;have HA:=af hA;clear hA;by_cases hlt:i<t.l.length
  .have b1:(i:Int)<(t.l.length:Int):=ae
   have b0:(0:Int)<=(i:Int):=ae;obtain ⟨b,o,y,ha,hy,-,-,K⟩:=HT.o.at i hlt;have hY:Hid ((y.l.length:Int)=(t.l[i].l.length:Int)):=by rw [hy.o];exact rfl
   by_cases hm:(y.l.length:Int)=m
   .have hq:((y.l.length:Int) !=m)=false:=by simpa using hm
    have HM:=af hm;clear hm;go_wp2_with fail
    refine ⟨⟨i+1,hlt,bq,λj hj qF=> ?_,s⟩,bz⟩;by_cases e:j<i
    .exact HA.o j hj e
    .obtain rfl:j=i:=ae
     rw [<-hY.o];exact HM.o
   .have hq:((y.l.length:Int) !=m)=true:=by simpa using hm
    have HM:=af hm;clear hm;go_wp2
    go_ret;refine ⟨?_,s⟩
    have:cE t n m=false:=by
     rw [Bool.eq_false_iff];intro h
     exact HM.o (by rw [hY.o];exact (gZ.1 h).2 _ (List.getElem_mem hlt))
    rw [this];rfl
  .obtain rfl:i=t.l.length:=ae
   go_wp2
   go_ret;refine ⟨?_,s⟩
   have:cE t n m=decide ((t.l.length:Int)=n):=by
    unfold cE;rw [List.all_eq_true.2 λy hy=> ?_,Bool.and_true];obtain ⟨j,hj,rfl⟩:=List.mem_iff_getElem.1 hy;simpa using HA.o j hj hj
   rw [this];rfl
def rG (p:Nat->Bool) (n:Nat):Int:=match(List.range n).find? p with|some i=>i|none=> -1
theorem sH {p:Nat->Bool} {n i:Nat} (h:i<n) (hp:p i=true) (hb: ∀j,j<i->p j=false):rG p n=i:=by
 unfold rG;rw [List.find?_range_eq_some.2 ⟨hp,List.mem_range.2 h,λj hj=>by simpa using hb j hj⟩]
theorem pd {p:Nat->Bool} {n:Nat} (hb: ∀j,j<n->p j=false):rG p n= -1:=by
 unfold rG;rw [List.find?_range_eq_none.2 λj hj=>by simpa using hb j hj]
theorem pY (p:Nat->Bool) (n:Nat):(∃i,i<n/\p i=true/\(∀j,j<i->p j=false)/\rG p n=i)\/(∀j,j<n->p j=false)/\rG p n= -1:=by
 by_cases h: ∀j,j<n->p j=false
 .exact .inr ⟨h,pd h⟩
 .unfold rG
  cases q:(List.range n).find? p with
  |none=>rw [List.find?_range_eq_none]at q;exact absurd (λj hj=>by simpa using q j hj) h
  |some i=>
   rw [List.find?_range_eq_some]at q;exact .inl ⟨i,List.mem_range.1 q.2.1,q.1,λj hj=>by simpa using q.2.2 j hj,rfl⟩
theorem Jd (V:World) (a:Option Addr) (c:Nat) (l:List Int) (h:bV V a c l) (F:Nat) (v0 v1:Value) (p:Nat->Bool) (hen: ∀args w,(callFunc F args).run prog w= .ok (.enter F args) w)
 (hF: ∀U (i:Nat) (hi:i<l.length),Ext V U->Calls prog F #[i64 l[i],v0,v1] U λe w'=>e= .returned (.bool (p i))/\Ext U w'):
 Calls prog 284 #[.slice a l.length c,.func (.func F) #[] #[v0,v1]] V λe w'=>e= .returned (i64 (rG p l.length))/\Ext V w':=by
 have hle:l.length<=c/\c<=9223372036854775807:=⟨h.le,h.cap⟩;have HH:=af h;have HF:=af hF;have si:=af hen
 clear h hF hen;go_enter func284,ntmps284
 go_wp2
 go_loopw [8] (λii wr=> ∃i:Nat,i<=l.length/\ii= .int .i64 i/\(∀j,j<i->p j=false)/\Ext V wr) (λii _=>l.length-(intOf ii).toNat)
 case atStart=>exact ⟨0,bm,rfl,λj h=>absurd h (Nat.not_lt_zero _),ah⟩
 case round=>
  obtain ⟨i,hi,rfl,hA,s⟩:=hrel;have HA:=af hA;clear hA;by_cases hlt:i<l.length
  .have b1:(i:Int)<(l.length:Int):=ae
   have b0:(0:Int)<=(i:Int):=ae
   obtain ⟨b,o,x,rfl,hx,K⟩: ∃b o x,a=some ⟨b,o,none⟩/\Hid (x=l[i])/\ ∀Y,Ext wr Y->Y.cell? ⟨b,o+i,none⟩=some (.int .i64 x):=by
    obtain ⟨b,o,ha,hc⟩:=HH.o.cell i hlt;exact ⟨b,o,l[i],ha,rfl,λY e=>aB (s.trans e) hc⟩
   have hen:=si.o;have HC:=af (HF.o wr i hlt s);rw [<-hx.o]at HC;have s0:=Ext.refl wr;go_wp2_with fail
   refine HC.o.mono ?_;rintro e w2 ⟨rfl,x2⟩;replace s:=s.trans x2;clear x2 s0;cases q:p i with
   |true=>
    have HQ:=af q;clear q;go_wp2
    go_ret;exact ⟨by rw [sH hlt HQ.o HA.o];rfl,s⟩
   |false=>
    have HQ:=af q;clear q;go_wp2
    exact ⟨⟨i+1,hlt,bq,λj hj=>by
     by_cases e:j<i
     .exact HA.o j e
     .obtain rfl:j=i:=ae
      exact HQ.o,s⟩,bz⟩
  .obtain rfl:i=l.length:=ae
   go_wp2
   go_ret;exact ⟨by rw [pd HA.o];rfl,s⟩
theorem Mq (V:World) (a:Option Addr) (c:Nat) (l:List eF) (h:di V 4 a c (l.map eF.cells)) (F:Nat) (v0 v1:Value) (p:Nat->Bool) (hen: ∀args w,(callFunc F args).run prog w= .ok (.enter F args) w)
 (hF: ∀U (i:Nat) (hi:i<l.length),Ext V U->Calls prog F #[.agg (eF.cells l[i]).toArray,v0,v1] U λe w'=>e= .returned (.bool (p i))/\Ext U w'):
 Calls prog 147 #[.slice a l.length c,.func (.func F) #[] #[v0,v1]] V λe w'=>e= .returned (i64 (rG p l.length))/\Ext V w':=by
 have hle:l.length<=c/\c<=9223372036854775807:=h.lens;have HH:=af h;have HF:=af hF;have si:=af hen
 clear h hF hen;go_enter func147,ntmps147
 go_wp2
 go_loopw [8] (λii wr=> ∃i:Nat,i<=l.length/\ii= .int .i64 i/\(∀j,j<i->p j=false)/\Ext V wr) (λii _=>l.length-(intOf ii).toNat)
 case atStart=>exact ⟨0,bm,rfl,λj h=>absurd h (Nat.not_lt_zero _),ah⟩
 case round=>
  obtain ⟨i,hi,rfl,hA,s⟩:=hrel;have HA:=af hA;clear hA;by_cases hlt:i<l.length
  .have b1:(i:Int)<(l.length:Int):=ae
   have b0:(0:Int)<=(i:Int):=ae;obtain ⟨b,o,x,rfl,hx,K⟩:=(HH.o.ext s).pick i hlt;simp only [Cs,eF.cells,Nat.add_zero,Nat.zero_add]at K;have hen:=si.o;have HC:=af (HF.o wr i hlt s);rw [<-hx.o]at HC;have s0:=Ext.refl wr;go_wp2_with fail
   refine HC.o.mono ?_;rintro e w2 ⟨rfl,x2⟩;replace s:=s.trans x2;clear x2 s0;cases q:p i with
   |true=>
    have HQ:=af q;clear q;go_wp2
    go_ret;exact ⟨by rw [sH hlt HQ.o HA.o];rfl,s⟩
   |false=>
    have HQ:=af q;clear q;go_wp2
    exact ⟨⟨i+1,hlt,bq,λj hj=>by
     by_cases e:j<i
     .exact HA.o j e
     .obtain rfl:j=i:=ae
      exact HQ.o,s⟩,bz⟩
  .obtain rfl:i=l.length:=ae
   go_wp2
   go_ret;exact ⟨by rw [pd HA.o];rfl,s⟩
theorem Mr (V:World) (a:Option Addr) (c:Nat) (l:List cH) (h:di V 3 a c (l.map cH.cells)) (F:Nat) (v0:Value) (p:Nat->Bool) (hen: ∀args w,(callFunc F args).run prog w= .ok (.enter F args) w)
 (hF: ∀U (i:Nat) (hi:i<l.length),Ext V U->Calls prog F #[.agg (cH.cells l[i]).toArray,v0] U λe w'=>e= .returned (.bool (p i))/\Ext U w'):
 Calls prog 149 #[.slice a l.length c,.func (.func F) #[] #[v0]] V λe w'=>e= .returned (i64 (rG p l.length))/\Ext V w':=by
 have hle:l.length<=c/\c<=9223372036854775807:=h.lens;have HH:=af h;have HF:=af hF;have si:=af hen
 clear h hF hen;go_enter func149,ntmps149
 go_wp2
 go_loopw [8] (λii wr=> ∃i:Nat,i<=l.length/\ii= .int .i64 i/\(∀j,j<i->p j=false)/\Ext V wr) (λii _=>l.length-(intOf ii).toNat)
 case atStart=>exact ⟨0,bm,rfl,λj h=>absurd h (Nat.not_lt_zero _),ah⟩
 case round=>
  obtain ⟨i,hi,rfl,hA,s⟩:=hrel;have HA:=af hA;clear hA;by_cases hlt:i<l.length
  .have b1:(i:Int)<(l.length:Int):=ae
   have b0:(0:Int)<=(i:Int):=ae;obtain ⟨b,o,x,rfl,hx,K⟩:=(HH.o.ext s).pick i hlt;simp only [Cs,cH.cells,Nat.add_zero,Nat.zero_add]at K;have hen:=si.o;have HC:=af (HF.o wr i hlt s);rw [<-hx.o]at HC;have s0:=Ext.refl wr;go_wp2_with fail
   refine HC.o.mono ?_;rintro e w2 ⟨rfl,x2⟩;replace s:=s.trans x2;clear x2 s0;cases q:p i with
   |true=>
    have HQ:=af q;clear q;go_wp2
    go_ret;exact ⟨by rw [sH hlt HQ.o HA.o];rfl,s⟩
   |false=>
    have HQ:=af q;clear q;go_wp2
    exact ⟨⟨i+1,hlt,bq,λj hj=>by
     by_cases e:j<i
     .exact HA.o j e
     .obtain rfl:j=i:=ae
      exact HQ.o,s⟩,bz⟩
  .obtain rfl:i=l.length:=ae
   go_wp2
   go_ret;exact ⟨by rw [pd HA.o];rfl,s⟩
theorem O_ (V:World) (a:Option Addr) (c:Nat) (l:List Int) (h:bV V a c l) (F:Nat) (v0 v1:Value) (p:Nat->Bool) (hen: ∀args w,(callFunc F args).run prog w= .ok (.enter F args) w)
 (hF: ∀U (i:Nat) (hi:i<l.length),Ext V U->Calls prog F #[i64 l[i],v0,v1] U λe w'=>e= .returned (.bool (p i))/\Ext U w'):
 Calls prog 244 #[.slice a l.length c,.func (.func F) #[] #[v0,v1]] V λe w'=>e= .returned (.bool (decide (0<=rG p l.length)))/\Ext V w':=by
 have HH:=af (Jd V a c l h F v0 v1 p hen hF);clear h hF hen;go_enter func244,ntmps244
 go_wp2_with fail
 refine HH.o.mono ?_;rintro e w ⟨rfl,x⟩;go_wp2
 go_ret;exact ⟨rfl,x⟩
def Gj (r:bE) (K:Nat):Prop:= ∀k,k<=K->xi r (some k)
theorem iG {w:World} {r:bE} {q:Rat} {B K:Nat} (h:dO w r q B) (hB:K<B):Gj r K:=λk hk=>om h (Nat.lt_of_le_of_lt hk hB)
structure QA (w:World) (K n:Nat) (g:Nat->Rat) (L:Nat):Prop where
 arr: ∃vs:List Value,vs.length=n*3/\aY w K 63 vs/\ ∀i,i<n-> ∃r:bE,vs[i*3]?=some (.bool r.s)/\vs[i*3+1]?=some (.slice r.a r.k r.c)/\vs[i*3+2]?=some (.slice r.b r.j r.d)/\fE w r (g i) L/\Gj r K
theorem QA.lt {w:World} {K n:Nat} {g:Nat->Rat} {L:Nat} (h:QA w K n g L):K<w.heap.size:=by obtain ⟨vs,-,hA,-⟩:=h.arr;exact hA.lt
theorem QA.ext {w w':World} {K n:Nat} {g:Nat->Rat} {L:Nat} (h:QA w K n g L) (e:Ext w w'):QA w' K n g L:=by
 obtain ⟨vs,h1,h2,h3⟩:=h.arr;exact ⟨vs,h1,h2.ext e,λi hi=>by obtain ⟨r,c0,c1,c2,hn,ho⟩:=h3 i hi;exact ⟨r,c0,c1,c2,hn.ext e,ho⟩⟩
theorem QA.mono {w:World} {K n:Nat} {g:Nat->Rat} {L L':Nat} (h:QA w K n g L) (e:L<=L'):QA w K n g L':=by
 obtain ⟨vs,h1,h2,h3⟩:=h.arr;exact ⟨vs,h1,h2,λi hi=>by obtain ⟨r,c0,c1,c2,hn,ho⟩:=h3 i hi;exact ⟨r,c0,c1,c2,hn.mono e,ho⟩⟩
theorem QA.congr {w:World} {K n:Nat} {g g':Nat->Rat} {L:Nat} (h:QA w K n g L) (e: ∀i,i<n->g i=g' i):QA w K n g' L:=by
 obtain ⟨vs,h1,h2,h3⟩:=h.arr;exact ⟨vs,h1,h2,λi hi=>by rw [<-e i hi];exact h3 i hi⟩
theorem QA.get {w:World} {K n:Nat} {g:Nat->Rat} {L:Nat} (h:QA w K n g L) (i:Nat) (hi:i<n): ∃r:bE,Hid (fE w r (g i) L)/\ ∀Y,Ext w Y->Y.cell? ⟨K,i*3,none⟩=some (.bool r.s)/\Y.cell? ⟨K,i*3+1,none⟩=some (.slice r.a r.k r.c)/\Y.cell? ⟨K,i*3+2,none⟩=some (.slice r.b r.j r.d):=by
 obtain ⟨vs,h1,h2,h3⟩:=h.arr;obtain ⟨r,c0,c1,c2,hn,-⟩:=h3 i hi;exact ⟨r,hn,λY e=>⟨by rw [(h2.ext e).cell];exact c0,by rw [(h2.ext e).cell];exact c1,by rw [(h2.ext e).cell];exact c2⟩⟩
theorem QA.frozen {w:World} {K n:Nat} {g:Nat->Rat} {L:Nat} (h:QA w K n g L) (i:Nat):w.frozen? ⟨K,i,none⟩=false:=by obtain ⟨vs,-,hA,-⟩:=h.arr;exact hA.frozen i
theorem QA.put {w:World} {K n:Nat} {g:Nat->Rat} {L:Nat} (h:QA w K n g L) (i:Nat) (hi:i<n) {r:bE} {q:Rat} (hr:fE w r q L) (ho:Gj r K):
 QA (((w.setCell ⟨K,i*3,none⟩ (.bool r.s)).setCell ⟨K,i*3+1,none⟩ (.slice r.a r.k r.c)).setCell ⟨K,i*3+2,none⟩ (.slice r.b r.j r.d)) K n (λj=>if j=i then q else g j) L/\
 aH K w (((w.setCell ⟨K,i*3,none⟩ (.bool r.s)).setCell ⟨K,i*3+1,none⟩ (.slice r.a r.k r.c)).setCell ⟨K,i*3+2,none⟩ (.slice r.b r.j r.d)):=by
 obtain ⟨vs,h1,h2,h3⟩:=h.arr;have x:aH K w (((w.setCell ⟨K,i*3,none⟩ (.bool r.s)).setCell ⟨K,i*3+1,none⟩ (.slice r.a r.k r.c)).setCell ⟨K,i*3+2,none⟩ (.slice r.b r.j r.d)):=(((aH.refl K w).nT).nT).nT;refine ⟨⟨((vs.set (i*3) (.bool r.s)).set (i*3+1) (.slice r.a r.k r.c)).set (i*3+2) (.slice r.b r.j r.d),by simp [h1],((h2.set _ _).set _ _).set _ _,λj hj=> ?_⟩,x⟩;by_cases e:j=i
 .subst e
  rw [if_pos rfl];refine ⟨r,?_,?_,?_,hr.but x (ho K cG),ho⟩
  .rw [List.getElem?_set_ne ae,List.getElem?_set_ne ae,List.getElem?_set_self ae]
  .rw [List.getElem?_set_ne ae,List.getElem?_set_self (by simp;omega)]
  .rw [List.getElem?_set_self (by simp;omega)]
 .rw [if_neg e]
  obtain ⟨r',c0,c1,c2,hn,yO⟩:=h3 j hj;refine ⟨r',?_,?_,?_,hn.but x (yO K cG),yO⟩
  .rw [List.getElem?_set_ne ae,List.getElem?_set_ne ae,List.getElem?_set_ne ae];exact c0
  .rw [List.getElem?_set_ne ae,List.getElem?_set_ne ae,List.getElem?_set_ne ae];exact c1
  .rw [List.getElem?_set_ne ae,List.getElem?_set_ne ae,List.getElem?_set_ne ae];exact c2
theorem QA.row {w:World} {K n:Nat} {g:Nat->Rat} {L:Nat} (h:QA w K n g L) (hn:n<=9223372036854775807): ∃l:List QV,l.length=n/\eC w ⟨some ⟨K,0,none⟩,n,l⟩ L/\ ∀i,i<n->(fM.mk (some ⟨K,0,none⟩) n l).q i=g i:=by
 obtain ⟨vs,h1,h2,h3⟩:=h.arr
 have hx: ∀i,∃r:bE,i<n->vs[i*3]?=some (.bool r.s)/\vs[i*3+1]?=some (.slice r.a r.k r.c)/\vs[i*3+2]?=some (.slice r.b r.j r.d)/\fE w r (g i) L/\Gj r K:=λi=>by
  by_cases hi:i<n
  .obtain ⟨r,hr⟩:=h3 i hi;exact ⟨r,λ_=>hr⟩
  .exact ⟨⟨false,none,0,0,none,0,0⟩,λe=>absurd e hi⟩
 obtain ⟨R,hR⟩:=Classical.axiomOfChoice hx;refine ⟨(List.range n).map λi=>⟨R i,g i⟩,aX,⟨⟨aX,hn,λi hi=> ?_⟩,λy hy=> ?_⟩,λi hi=> ?_⟩
 .have hi':i<n:=by simpa using hi
  obtain ⟨c0,c1,c2,-⟩:=hR i hi';refine ⟨K,0,rfl,λj hj=> ?_⟩;simp only [List.map_map,List.getElem_map,List.getElem_range,Function.comp,QV.cells,bE.cells]at hj⊢;rw [h2.cell];match j,hj with
  |0,_=>simpa using c0
  |1,_=>simpa using c1
  |2,_=>simpa using c2
 .obtain ⟨i,hi,rfl⟩:=List.mem_map.1 hy
  exact (hR i (List.mem_range.1 hi)).2.2.2.1
 .unfold fM.q;simp [hi]
def eL (f:Nat->Rat):Nat->Rat
 |0=>0
 |n+1=>eL f n+f n
theorem pZ {f g:Nat->Rat}: ∀{n:Nat},(∀i,i<n->f i=g i)->eL f n=eL g n
 |0,_=>rfl
 |n+1,h=>by rw [eL,eL,pZ λi hi=>h i (Nat.lt_succ_of_lt hi),h n (Nat.lt_succ_self n)]
theorem CE {n:Nat}:eL (λ_=>0) n=0:=by
 induction n with
 |zero=>rfl
 |succ n ih=>rw [eL,ih,Rat.add_zero]
theorem sK (w:World):fE w ⟨false,none,0,0,none,0,0⟩ 0 1:=⟨⟨0,0,Raw.nil w,Raw.nil w,rfl,ai,ai⟩,ai,ai⟩
theorem QA.Ea {w:World} {K n:Nat} (h:aY w K 63 (fh n)):QA w K n (λ_=>0) 1:=
 ⟨fh n,tD n,h,λi hi=>⟨⟨false,none,0,0,none,0,0⟩,by rw [pK n _ ae,show i*3 % 3=0 by omega];rfl,by rw [pK n _ ae,show(i*3+1) % 3=1 by omega];rfl,by rw [pK n _ ae,show(i*3+2) % 3=2 by omega];rfl,sK w,λ_ _=>⟨λh=>absurd h (Nat.lt_irrefl 0),λh=>absurd h (Nat.lt_irrefl 0)⟩⟩⟩
def nI (c:aq) (i:Nat):Nat×Nat:=((nD c i).1.toNat,(nD c i).2.toNat)
def kept (c:aq) (l:List Nat) (gone:List Int) (k:Nat):List (Nat×Nat):=((l.take k).filter λ(i:Nat)=> !hasB gone (i:Int)).map (nI c)
theorem sO (c:aq) (l:List Nat) (gone:List Int) {k:Nat} (h:k<l.length):kept c l gone (k+1)=if hasB gone (l[k]:Int)=true then kept c l gone k else kept c l gone k++ [nI c l[k]]:=by
 unfold kept;rw [List.take_succ_eq_append_getElem h,List.filter_append];cases q:hasB gone (l[k]:Int)<;>simp [q]
theorem Ph (v:Int):hasB [] v=false:=rfl
theorem Gs (a b:List Int) (v:Int):hasB (a++b) v=(hasB a v||hasB b v):=by unfold hasB;rw [List.any_append]
theorem rK (l:List Nat) (out:List Int) (m:Nat): ∀N,hasB (cU (gT l out N)) (m:Int)=(decide (m<N)&&hasB out ((l.getD m 0:Nat):Int))
 |0=>by simp [gT,cU,hasB]
 |N+1=>by
  unfold gT;by_cases q:hasB out ((l.getD N 0:Nat):Int)=true
  .rw [if_pos q]
   have h1:cU (gT l out N++ [N])=cU (gT l out N)++ [(N:Int)]:=by simp [cU]
   rw [h1,Gs,rK l out m N];by_cases hm:m=N
   .subst hm
    rw [q];simp [hasB]
   .have h2:hasB [(N:Int)] (m:Int)=false:=by simp [hasB];omega
    have h3:decide (m<N+1)=decide (m<N):=by rw [Bool.eq_iff_iff];simp;omega
    rw [h2,h3,Bool.or_false]
  .rw [if_neg q,rK l out m N]
   by_cases hm:m=N
   .subst hm
    have q':hasB out ((l.getD m 0:Nat):Int)=false:=by simpa using q
    rw [q'];simp
   .have h3:decide (m<N+1)=decide (m<N):=by rw [Bool.eq_iff_iff];simp;omega
    rw [h3]
theorem CH (c:aq) (l:List Nat) (out:List Int): ∀m,m<=l.length->mi (l.map (nI c)) (cU (gT l out l.length)) m=kept c l out m
 |0,_=>rfl
 |m+1,h=>by
  unfold mi;rw [CH c l out m ae,rK,sO c l out (show m<l.length by omega)];have h1:l.getD m 0=l[m]:=by rw [List.getD_eq_getElem?_getD,List.getElem?_eq_getElem ae];rfl
  have h2:(l.map (nI c)).getD m (0,0)=nI c l[m]:=by
   rw [List.getD_eq_getElem?_getD,List.getElem?_eq_getElem (by rw [List.length_map];omega)];simp
  have h3:decide (m<l.length)=true:=by simp;omega
  rw [h1,h2,h3,Bool.true_and]
theorem Pj (c:aq) (l:List Nat):kept c l [] l.length=l.map (nI c):=by
 unfold kept;rw [List.take_length,List.filter_eq_self.2 (λi _=>by rw [Ph];rfl)]
theorem Ed (c:aq) (h:Int) (x:ee):
 (((comps c.ar.length (kept c (cK c h c.lines.length) x.lines (cK c h c.lines.length).length):Nat):Int)==((comps c.ar.length (kept c (cK c h c.lines.length) [] (cK c h c.lines.length).length):Nat):Int))= !mI c h x:=by
 unfold mI O3 lV;obtain ⟨l,hl⟩: ∃l,l=cK c h c.lines.length:=⟨_,rfl⟩;rw [<-hl];have he:(l.map λi=>((nD c i).1.toNat,(nD c i).2.toNat))=l.map (nI c):=rfl;rw [he,List.length_map,CH c l x.lines l.length cG,Pj]
 have hle:comps c.ar.length (l.map (nI c))<=comps c.ar.length (kept c l x.lines l.length):=by
  apply I6;intro p hp;unfold kept at hp;obtain ⟨i,hi,rfl⟩:=List.mem_map.1 hp;exact List.mem_map_of_mem (List.mem_of_mem_take (List.mem_filter.1 hi).1)
 rw [Bool.eq_iff_iff];simp only [beq_iff_eq,Bool.not_eq_true',decide_eq_false_iff_not];omega
structure iA (c:aq) (n:Nat) (l:List Nat) (gone:List Int) (k:Nat) (f:Nat->Nat):Prop where
 tells:nG n (kept c l gone k) f
 lt: ∀b,b<n->f b<n
theorem iA.zero (c:aq) (n:Nat) (l:List Nat) (gone:List Int):iA c n l gone 0 (λb=>b):=⟨nG.nil n,λ_ h=>h⟩
theorem Vp (n:Nat):cls (λb=>b) n=n:=by
 induction n with
 |zero=>rfl
 |succ n ih=>
  rw [vd,ih,if_pos];rw [iT];intro k hk;omega
theorem iA.same {c:aq} {n:Nat} {l:List Nat} {gone:List Int} {k:Nat} {f:Nat->Nat} (h:iA c n l gone k f) (hk:k<l.length) (hx:(nI c l[k]).1<n) (hy:(nI c l[k]).2<n) (e:f (nI c l[k]).1=f (nI c l[k]).2):iA c n l gone (k+1) f:=by
 refine ⟨?_,h.lt⟩;rw [sO c l gone hk];split
 .exact h.tells
 .exact h.tells.skip hx hy e
theorem iA.gone {c:aq} {n:Nat} {l:List Nat} {gone:List Int} {k:Nat} {f:Nat->Nat} (h:iA c n l gone k f) (hk:k<l.length) (e:hasB gone (l[k]:Int)=true):iA c n l gone (k+1) f:=by
 refine ⟨?_,h.lt⟩;rw [sO c l gone hk,if_pos e];exact h.tells
theorem iA.join {c:aq} {n:Nat} {l:List Nat} {gone:List Int} {k:Nat} {f:Nat->Nat} (h:iA c n l gone k f) (hk:k<l.length) (hx:(nI c l[k]).1<n) (hy:(nI c l[k]).2<n) (e:f (nI c l[k]).1≠f (nI c l[k]).2) (g:hasB gone (l[k]:Int)=false):
 iA c n l gone (k+1) (merge f (f (nI c l[k]).1) (f (nI c l[k]).2))/\cls (merge f (f (nI c l[k]).1) (f (nI c l[k]).2)) n+1=cls f n:=by
 refine ⟨⟨?_,?_⟩,nG.I5 hx hy e⟩
 .rw [sO c l gone hk,if_neg (by rw [g];simp)]
  exact h.tells.join hx hy e
 .intro b hb
  unfold merge;split
  .exact h.lt _ hx
  .exact h.lt b hb
