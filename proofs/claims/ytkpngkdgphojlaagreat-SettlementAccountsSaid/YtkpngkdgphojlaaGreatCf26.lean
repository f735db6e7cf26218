/- Texts of the proof. -/
import Derived.Test.YtkpngkdgphojlaaGreatCf13
import Derived.Test.YtkpngkdgphojlaaGreatCf14
import Derived.Test.YtkpngkdgphojlaaGreatCf24
import Derived.Test.YtkpngkdgphojlaaGreatCf25
set_option linter.all false
set_option maxHeartbeats 4000000
set_option maxRecDepth 100000
namespace Go.Proofs.YtkpngkdgphojlaaGreat
open Go.Proofs.Tryz
open Go.RowKit
section
variable{P:Program} {ops:Array Oper} {Q:Exit→Act→World→Prop} {rest:List Oper} {o:Oper} {a:Act} {w:World}
theorem iw (s x:Operand) (t e:TypeId) (z:Value) (size bytes:Nat) (hgd:o.guard=none) (ho:o.op= .call {callee:= .builtin .append,args:= #[s,x],argTypes:= #[t,t]})
 (ht:P.underlying t=some (.slice e)) (iL:(P.info? e).map (fun i=>(i.zero,i.size,i.bytes))=some (some z,size,bytes)) (hzs:z.cells.size=size) (hsz:0<size) (hby:bytes≤100)
 {D:Nat} {ga:Option Addr} {gc:Nat} {rows:List (List Value)} (hs:a.eval s= .slice ga rows.length gc) (own:aJ w D e size (.slice ga rows.length gc) rows)
 {B:Nat} {r:List Value} (hx:a.eval x= .slice (some ⟨B,0,none⟩) 1 1) (hB:aQ w B e r) (hr:r.length=size) (h1: ∀u∈r,u.oneCell'=true) (h63:rows.length≤1100000000000) (hD:D≤w.heap.size)
 (h: ∀g2 k2 w' K,aJ w' D e size (.slice g2 (rows.length+1) k2) (rows++ [r])→Hid (D≤K∧(K=w.heap.size∨ ∃q,ga=some q∧q.block=K))→ar K w w'→wpList P ops Q rest (a.put o.dst (.slice g2 (rows.length+1) k2)) w'):wpList P ops Q (o::rest) a w:=by
 refine bn _ hgd s x t ho D e z size bytes ht iL hzs hsz _ rows.length rows.flatten hs own.own (some ⟨B,0,none⟩) 1 1 r hx (by omega) (fun _=>⟨_,rfl,fun j u hj=> ?_⟩) h1 (fun e=>by cases e) (by omega) hby hD ?_
 ·rw [cF,hB.cell];exact hj
 intro v1 w5 ho he hb hz hv;obtain ⟨g2,k2,rfl⟩:=fg ho.o;obtain ⟨K,M9,Lr,hKx⟩:=jM (base:=D) (v:= .slice ga rows.length gc) hD (fun k q=>(own.own.lt k q).1) he.o hb.o hz.o;refine h g2 k2 w5 K (own.snoc hr ho.o) ⟨M9,?_⟩ hKx;rcases Lr with q|q
 ·exact .inl q
 ·cases ga with
  |none=>cases q
  |some q'=>exact .inr ⟨q',rfl,by have e2:some q'.block=some K:=q;cases e2;rfl⟩
end
theorem Tryz.info_acc:(Tryz.prog.info? 57).map (fun i=>(i.zero,i.size,i.bytes))=some (some (.agg #[i64 0,i64 0]),2,16):=by kernel_rfl
def h_ (l:List (Int×Int)):List (List Value):=l.map fun x=> [i64 x.1,i64 x.2]
theorem bC (l:List (Int×Int)):(h_ l).length=l.length:=by simp [h_]
theorem nw (l:List (Int×Int)) (x:Int×Int):h_ (l++ [x])=h_ l++ [[i64 x.1,i64 x.2]]:=by simp [h_]
def jr (k:Int) (n:Nat):List (Int×Int):=(List.range n).map fun(i:Nat)=>(k,(i:Int))
theorem iy (k:Int) (n:Nat):(jr k n).length=n:=by simp [jr]
theorem yy (k:Int) (n:Nat):jr k (n+1)=jr k n++ [(k,(n:Int))]:=by simp [jr,List.range_succ]
structure pM (V W0:World) (L D:Nat) (l:List (Int×Int)) (w:World):Prop where
 var: ∃ga gc,aQ w L 48 [.slice ga l.length gc]∧aJ w D 57 2 (.slice ga l.length gc) (h_ l)
 ext:Ext V w
 pos:V.heap.size≤L∧L<D∧D≤w.heap.size
 kp: ∀b,b<D→b≠L→w.heap[b]?=W0.heap[b]?
theorem pM.arr {V W0 w:World} {L D:Nat} {l:List (Int×Int)} (h:pM V W0 L D l w) {b:Nat} {T:TypeId} {vs:List Value} (hA:aQ W0 b T vs) (h1:b<D) (h2:b≠L):aQ w b T vs:=by unfold aQ;rw [h.kp b h1 h2];exact hA
theorem rj (V W0 w:World) (L D:Nat) (l:List (Int×Int)) (k:Int) (n:Nat) (h:pM V W0 L D l w) (hl:l.length+n≤100000):
 Calls prog 51 #[i64 k,.int .i64 (n:Int),.pointer (some ⟨L,0,none⟩)] w fun e w'=>e= .returned (.tuple #[])∧pM V W0 L D (l++jr k n) w':=by
 have H:=ae h;have HN:=ae hl
 clear h hl;go_enter func51,ntmps51
 go_wp2_with fail
 go_loopw [7] (fun v wr=> ∃j:Nat,j≤n∧pM V W0 L D (l++jr k j) wr∧v= .int .i64 (j:Int)) (fun v _=>n-(intOf v).toNat)
 case atStart=>exact ⟨0,Nat.zero_le _,by simpa [jr]using H.o,rfl⟩
 case round=>
  obtain ⟨j,hj,hA,rfl⟩:=hrel;clear H;by_cases hlt:j<n
  ·obtain ⟨l2,hl2⟩: ∃l2,l2=l++jr k j:=⟨_,rfl⟩
   have MR:l++jr k (j+1)=l2++ [(k,(j:Int))]:=by rw [yy,←List.append_assoc,hl2]
   have hl4:l2.length≤100000:=by rw [hl2,List.length_append,iy];have:=HN.o;omega
   rw [←hl2]at hA;clear hl2;obtain ⟨⟨ga,gc,hv,ho⟩,hx,hp,UL⟩:=hA;have c0:=hv.cell 0;have HV:=ae hv;have HO:=ae ho;have HX:=ae hx;have HP:=ae hp;have SX:=ae hl4;have Jr:=ae MR;have HKP:=ae UL
   clear hv ho hx hp hl4 MR UL;have b1:(j:Int)<(n:Int):=by omega
   have q1:IntKind.i64.wrap ((j:Int)+1)=((j+1:Nat):Int):=by rw [IntKind.wrap_i64];have:=HN.o;omega
   go_wp2_with (first
    |(refine gW rfl 48 _ rfl 57 (.agg #[i64 0,i64 0]) 2 16 underlying48 Tryz.info_acc (by decide) (by decide) [i64 k,i64 (j:Int)] rfl rfl ?_
      intro W1 hB x1;have HB:=ae hB;have p9:=ae (HO.o.ext x1);have WZ:=ae (HV.o.ext x1);have eE:=ae (HX.o.trans x1);have zi:=ae x1.size;have Yk:Hid (∀b,b<D→b≠L→W1.heap[b]?=W0.heap[b]?):=fun b h1 h2=>by rw [←HKP.o b h1 h2];exact (x1.but L).block b (by have:=HP.o;omega) h2
      clear hB x1)
    |(at_builtin
      refine iw _ _ 48 57 (.agg #[i64 0,i64 0]) 2 16 rfl rfl underlying48 Tryz.info_acc rfl (by decide) (by decide) (ga:=ga) (gc:=gc) (rows:=h_ l2) (by rw [bC];rfl) (by rw [bC];exact p9.o) rfl HB.o rfl (by intro u hu;rcases List.mem_cons.1 hu with e|hu;subst e;rfl;rw [List.mem_singleton]at hu;subst hu;rfl) (by rw [bC];have:=SX.o;omega) (by have:=HP.o;have:=zi.o;omega) ?_;intro g2 k2 W2 K mM hK x2;rw [bC,←nw l2 (k,(j:Int))]at mM;rw [bC];have hv2:=WZ.o.but x2 (by have:=hK.o;have:=HP.o;omega);have c2:=hv2.cell 0;have f2:=hv2.frozen 0;have KS:=ae hv2;have o6:=ae mM;have ez:=ae (x2.ext eE.o (by have:=hK.o;have:=HP.o;omega));have Aw:=ae x2.size;have Yl:Hid (∀b,b<D→b≠L→W2.heap[b]?=W0.heap[b]?):=fun b h1 h2=>by rw [←Yk.o b h1 h2];exact x2.block b (by have:=HP.o;have:=zi.o;omega) (by have:=hK.o;omega)
      clear mM hK x2 hv2 c0))
   have hz2:(l2++ [(k,(j:Int))]).length=l2.length+1:=by simp
   have HF:Hid (pM V W0 L D (l++jr k (j+1)) (W2.setCell ⟨L,0,none⟩ (.slice g2 (l2.length+1) k2))):=by
    have hx2:=((ar.refl L W2).eL (o:=0) (v:= .slice g2 (l2.length+1) k2));show pM _ _ _ _ _ _;rw [Jr.o];refine ⟨⟨g2,k2,by rw [hz2];exact KS.o.set 0 _,by rw [hz2];exact o6.o.but hx2 HP.o.2.1⟩,ez.o.setCell HP.o.1 _,⟨HP.o.1,HP.o.2.1,?_⟩,fun b h1 h2=> ?_⟩
    ·have:=HP.o;have:=zi.o;have:=Aw.o;have:=hx2.size;omega
    ·rw [←Yl.o b h1 h2];exact hx2.block b (by have:=HP.o;have:=zi.o;have:=Aw.o;omega) h2
   exact ⟨⟨j+1,by omega,HF.o,by go_num⟩,by simp only [intOf];omega⟩
  ·obtain rfl:j=n:=by omega
   have H:=ae hA;clear hA;go_wp2_with fail
   go_end0
   exact ⟨rfl,H.o⟩
def mf (c:ai):List (Int×Int):=jr 0 c.aq.length++jr 1 c.stores.length++jr 2 c.aB.length++jr 3 c.aj.length++jr 4 1
theorem pM.recs {V W0 w:World} {L D:Nat} {l:List (Int×Int)} (h:pM V W0 L D l w): ∃ga gc,aQ w L 48 [.slice ga l.length gc]∧bH w 2 ga gc (h_ l):=by
 obtain ⟨ga,gc,h1,h2⟩:=h.var;obtain ⟨a,c,e,hr,-⟩:=h2.recs (by decide);rw [bC]at e;cases e
 exact ⟨ga,gc,h1,hr⟩
theorem BM (V:World) (c:ai) (hc:a_ V c) (hl:oA c) (hn:c.aq.length+c.stores.length+c.aB.length+c.aj.length≤10000):
 Calls prog 20 #[.agg (C8 c)] V fun e w'=>Ext V w'∧((dW c≠0∧e= .returned (.tuple #[.slice none 0 0,i64 (dW c)]))∨
  (dW c=0∧ ∃ga gc,e= .returned (.tuple #[.slice ga (mf c).length gc,i64 0])∧bH w' 2 ga gc (h_ (mf c)))):=by
 try unfold C8
 have OU:=ae (fun U (x:Ext V U)=>Jp U c (hc.ext x) hl);have HN:=ae hn;have LL:=hc.aq.le;have LM:=hc.stores.le;have LN:=hc.aB.le;have xc:=hc.aj.le
 have Nh:=hc.aq.cap;have Ni:=hc.stores.cap;have Nj:=hc.aB.cap;have EP:=hc.aj.cap
 rw [List.length_map]at xc LL LM LN;obtain ⟨ce,hce⟩: ∃ce,ce=dW c:=⟨_,rfl⟩;rw [←hce];have Ym:=ae hce;clear hc hl hn hce;go_enter func20,ntmps20
 go_upto_region 1 with fail
 generalize hW:World.alloc V _=W;obtain ⟨B,hB,x,A⟩:=bX hW;rw [←hB];have HX:=ae x;have HA:=ae A
 have k0:=ai.at HA.o;have HBV:Hid (V.heap.size≤B):=by show _≤_;omega
 clear hW hB x A;go_wp2_with fail
 refine (OU.o W HX.o).mono ?_;rintro e w1 ⟨ek,ei,ef,rfl,xx⟩;clear OU k0;rw [←Ym.o];go_upto_region 2 with fail
 generalize hW2:World.alloc w1 _=W2;obtain ⟨B2,-,x2,-⟩:=bX hW2;have HA:=ae (HA.o.ext (xx.trans x2));have HX:=ae (HX.o.trans (xx.trans x2))
 clear hW2 xx x2;by_cases hz:ce=0
 rotate_left
 ·have tz:(ce !=0)=true:=by simpa using hz
  have HZ:=ae hz;clear hz;go_wp2_with fail
  go_ret2
  exact ⟨HX.o,.inl ⟨HZ.o,rfl⟩⟩
 have tz:(ce !=0)=false:=by simpa using hz
 have HZ:=ae hz;clear hz;go_upto_region 5 with fail
 generalize hW3:World.alloc W2 _=W3;obtain ⟨L,hL,x3,A3⟩:=bX hW3;rw [←hL]
 have HL:Hid (pM V W3 L W3.heap.size [] W3):=by
  have h1:=A3.lt;have h2:=HX.o.size
  exact ⟨⟨none,0,A3,aJ.nil _ _ _ _⟩,HX.o.trans x3,⟨by omega,h1,Nat.le_refl _⟩,fun _ _ _=>rfl⟩
 have iG:Hid (B≠L∧B<W3.heap.size):=by
  have h1:=HA.o.lt;have h2:=x3.size
  show _∧_;omega
 have HA:=ae (HA.o.ext x3);have k0:=ai.at HA.o;obtain ⟨D,hD⟩: ∃D,D=W3.heap.size:=⟨_,rfl⟩;rw [←hD]at HL iG;clear hW3 hL x3 A3 tz hD HX;go_wp2_with fail
 refine (rj V W3 W3 L D _ 0 c.aq.length HL.o (by have:=HN.o;simp only [List.length_nil];omega)).mono ?_;rintro e W4 ⟨rfl,h⟩;replace HL:=ae h;have um:=ae (h.arr HA.o iG.o.2 iG.o.1);clear h k0;have k0:=ai.at um.o;go_wp2_with fail
 refine (rj V W3 W4 L D _ 1 c.stores.length HL.o (by have:=HN.o;simp only [List.length_append,iy,List.length_nil];omega)).mono ?_;rintro e W5 ⟨rfl,h⟩;replace HL:=ae h;replace um:=ae (h.arr HA.o iG.o.2 iG.o.1);clear h k0;have k0:=ai.at um.o;go_wp2_with fail
 refine (rj V W3 W5 L D _ 2 c.aB.length HL.o (by have:=HN.o;simp only [List.length_append,iy,List.length_nil];omega)).mono ?_;rintro e W6 ⟨rfl,h⟩;replace HL:=ae h;replace um:=ae (h.arr HA.o iG.o.2 iG.o.1);clear h k0;have k0:=ai.at um.o;go_wp2_with fail
 refine (rj V W3 W6 L D _ 3 c.aj.length HL.o (by have:=HN.o;simp only [List.length_append,iy,List.length_nil];omega)).mono ?_;rintro e W7 ⟨rfl,h⟩;replace HL:=ae h;clear h k0 um;go_wp2_with fail
 refine (rj V W3 W7 L D _ 4 1 HL.o (by have:=HN.o;simp only [List.length_append,iy,List.length_nil];omega)).mono ?_;rintro e W8 ⟨rfl,h⟩;rw [List.nil_append,show jr 0 c.aq.length++jr 1 c.stores.length++jr 2 c.aB.length++jr 3 c.aj.length++jr 4 1=mf c from rfl]at h;replace HL:=ae h;clear h;obtain ⟨ga,gc,hv,hr⟩:=HL.o.recs;obtain ⟨n9,Yn⟩: ∃n9,n9=(mf c).length:=⟨_,rfl⟩;rw [←Yn]at hv;have HN9:=ae Yn;have c0:=hv.cell 0;have HR:=ae hr;clear hv hr Yn;go_wp2_with fail
 go_ret2
 exact ⟨HL.o.ext,.inr ⟨HZ.o,ga,gc,by rw [←HN9.o];rfl,HR.o⟩⟩
def oC (z:Nat→Nat):Nat→List (Int×Int)
 |0=> []
 |k+1=>oC z k++jr k (z k)
structure DJ (V:World) (S D:Nat) (zs:List Nat) (l:List (Int×Int)) (v:Value) (w:World):Prop where
 own: ∃ga gc,v= .slice ga l.length gc∧aJ w D 57 2 (.slice ga l.length gc) (h_ l)
 sz:aQ w S 123 (zs.map fun(n:Nat)=> .int .i64 (n:Int))
 ext:Ext V w
 pos:V.heap.size≤S∧S<D∧D≤w.heap.size
theorem zK (V:World) (c:ai) (hc:a_ V c) (hn:c.aq.length+c.stores.length+c.aB.length+c.aj.length≤10000):
 Calls prog 23 #[.agg (C8 c)] V fun e w'=>Ext V w'∧ ∃ga gc,e= .returned (.slice ga (mf c).length gc)∧bH w' 2 ga gc (h_ (mf c)):=by
 try unfold C8
 have LL:=hc.aq.le;have LM:=hc.stores.le;have LN:=hc.aB.le;have xc:=hc.aj.le
 have Nh:=hc.aq.cap;have Ni:=hc.stores.cap;have Nj:=hc.aB.cap;have EP:=hc.aj.cap
 rw [List.length_map]at xc LL LM LN;have HN:=ae hn;clear hc hn;go_enter func23,ntmps23
 go_upto_region 1 with fail
 generalize hW:World.alloc V _=W;obtain ⟨B,hB,x,A⟩:=bX hW;rw [←hB];have HX:=ae x;obtain ⟨k0,k1,k2,k3,k4,k5,k6,k7⟩:=ai.at A;clear hW hB A x;go_upto_region 3 with fail
 generalize hW2:World.alloc W _=W2;obtain ⟨S,hS,x2,A2⟩:=bX hW2;rw [←hS];obtain ⟨zs,hzs⟩: ∃zs:List Nat,zs= [c.aq.length,c.stores.length,c.aB.length,c.aj.length]:=⟨_,rfl⟩;obtain ⟨z,hz⟩: ∃z:Nat→Nat,z=fun i=>zs[i]?.getD 0:=⟨_,rfl⟩
 have HZ:Hid (∀i,i<4→ ∃h:i<zs.length,zs[i]=z i∧z i≤10000):=by
  intro i hi;have:=HN.o;subst hz hzs;rcases (show i=0∨i=1∨i=2∨i=3 by omega)with rfl|rfl|rfl|rfl<;>exact ⟨by simp,rfl,by simp;omega⟩
 have HE:Hid (oC z 4++jr 4 1=mf c):=by
  subst hz hzs;show _=_;simp [oC,mf]
 have Yo:Hid (∀k,k≤4→(oC z k).length≤10000):=by
  intro k hk;have:=HN.o;subst hz hzs;rcases (show k=0∨k=1∨k=2∨k=3∨k=4 by omega)with rfl|rfl|rfl|rfl|rfl<;>simp [oC,iy]<;>omega
 obtain ⟨D,hD⟩: ∃D,D=W2.heap.size:=⟨_,rfl⟩
 have H0:Hid (DJ V S D zs [] (.slice none 0 0) W2):=by
  have h1:=A2.lt;have h2:=HX.o.size
  exact ⟨⟨none,0,rfl,aJ.nil _ _ _ _⟩,by rw [hzs];exact A2,HX.o.trans x2,by omega⟩
 clear hW2 hS x2 A2 hzs hz hD k0 k1 k2 k3 k4 k5 k6 k7 HX LL LM LN xc Nh Ni Nj EP;go_wp2_with fail
 go_loopw [3,5] (fun v kv wr=> ∃k:Nat,k≤4∧DJ V S D zs (oC z k) v wr∧kv= .int .i64 (k:Int)) (fun _ kv _=>4-(intOf kv).toNat)
 case atStart=>exact ⟨0,by omega,H0.o,rfl⟩
 case round=>
  obtain ⟨k,hk,hA,rfl⟩:=hrel;clear H0;have HA:=ae hA;clear hA;by_cases hlt:k<4
  ·have bk:(k:Int)<4:=by omega
   obtain ⟨hkz,EM,hkm⟩:=HZ.o k hlt;have HKZ:Hid (∃h:k<zs.length,zs[k]=z k):=⟨hkz,EM⟩;have Yp:=ae hkm;have qx:=ae (Yo.o k hk)
   have q1:IntKind.i64.wrap ((k:Int)+1)=((k+1:Nat):Int):=by rw [IntKind.wrap_i64];omega
   have hU:oC z (k+1)=oC z k++jr k (z k):=rfl;have HU:=ae hU;obtain ⟨l0,hl0⟩: ∃l0,l0=oC z k:=⟨_,rfl⟩;obtain ⟨n,hn⟩: ∃n,n=z k:=⟨_,rfl⟩;rw [←hl0,←hn]at HU;rw [←hl0]at HA qx;rw [←hn]at HKZ Yp;clear hkz EM hkm hU hl0 hn;go_wp2_with fail
   go_loopw [3,6] (fun v jv wr=> ∃j:Nat,j≤n∧DJ V S D zs (l0++jr k j) v wr∧jv= .int .i64 (j:Int)) (fun _ jv _=>n-(intOf jv).toNat)
   case atStart=>exact ⟨0,Nat.zero_le _,by simpa [jr]using HA.o,rfl⟩
   case round=>
    obtain ⟨j,hj,hA,rfl⟩:=hrel;clear HA;obtain ⟨l2,hl2⟩: ∃l2,l2=l0++jr k j:=⟨_,rfl⟩;have MR:l0++jr k (j+1)=l2++ [((k:Int),(j:Int))]:=by rw [yy,←List.append_assoc,hl2]
    have hl4:l2.length≤20000:=by rw [hl2,List.length_append,iy];have:=qx.o;have:=Yp.o;omega
    rw [←hl2]at hA;have MU:=ae hl2;clear hl2;obtain ⟨⟨ga,gc,rfl,ho⟩,hs,hx,hp⟩:=hA
    have cs:wr.cell? ⟨S,k,none⟩=some (.int .i64 (n:Int)):=by
     obtain ⟨h1,h2⟩:=HKZ.o;rw [hs.cell k,List.getElem?_map,List.getElem?_eq_getElem h1,h2];rfl
    have HO:=ae ho;have HS:=ae hs;have HX:=ae hx;have HP:=ae hp;have SX:=ae hl4;have Jr:=ae MR
    clear ho hs hx hp hl4 MR;by_cases hjn:j<n
    ·have b1:(j:Int)<(n:Int):=by omega
     have q2:IntKind.i64.wrap ((j:Int)+1)=((j+1:Nat):Int):=by rw [IntKind.wrap_i64];have:=Yp.o;omega
     go_wp2_with (first
      |(refine gW rfl 48 _ rfl 57 (.agg #[i64 0,i64 0]) 2 16 underlying48 Tryz.info_acc (by decide) (by decide) [i64 (k:Int),i64 (j:Int)] rfl rfl ?_
        intro W1 hB x1;have HB:=ae hB;have p9:=ae (HO.o.ext x1);have zi:=ae (HS.o.ext x1);have eE:=ae (HX.o.trans x1);have Ox:=ae x1.size;clear hB x1)
      |(at_builtin
        refine iw _ _ 48 57 (.agg #[i64 0,i64 0]) 2 16 rfl rfl underlying48 Tryz.info_acc rfl (by decide) (by decide) (ga:=ga) (gc:=gc) (rows:=h_ l2) (by rw [bC];rfl) (by rw [bC];exact p9.o) rfl HB.o rfl (by intro u hu;rcases List.mem_cons.1 hu with e|hu;subst e;rfl;rw [List.mem_singleton]at hu;subst hu;rfl) (by rw [bC];have:=SX.o;omega) (by have:=HP.o;have:=Ox.o;omega) ?_;intro g2 k2 W2 K mM hK x2;rw [bC,←nw l2 ((k:Int),(j:Int))]at mM;rw [bC];have o6:=ae mM;have Aw:=ae (zi.o.but x2 (by have:=hK.o;have:=HP.o;omega));have ez:=ae (x2.ext eE.o (by have:=hK.o;have:=HP.o;omega));have Qm:=ae x2.size;clear mM hK x2))
     have hz2:(l2++ [((k:Int),(j:Int))]).length=l2.length+1:=by simp
     have HF:Hid (DJ V S D zs (l0++jr k (j+1)) (.slice g2 (l2.length+1) k2) W2):=by
      show DJ _ _ _ _ _ _ _;rw [Jr.o];exact ⟨⟨g2,k2,by rw [hz2],by rw [hz2];exact o6.o⟩,Aw.o,ez.o,HP.o.1,HP.o.2.1,by have:=HP.o;have:=Ox.o;have:=Qm.o;omega⟩
     exact ⟨⟨j+1,by omega,HF.o,by go_num⟩,by simp only [intOf];omega⟩
    ·obtain rfl:j=n:=by omega
     have HF:Hid (DJ V S D zs (oC z (k+1)) (.slice ga l2.length gc) wr):=by
      show DJ _ _ _ _ _ _ _;rw [HU.o,←MU.o];exact ⟨⟨ga,gc,rfl,HO.o⟩,HS.o,HX.o,HP.o⟩
     have b1: ¬(j:Int)<(j:Int):=by omega
     go_wp2_with fail
     exact ⟨⟨k+1,by omega,HF.o,by go_num⟩,by simp only [intOf];omega⟩
  ·obtain rfl:k=4:=by omega
   have hl4:=Yo.o 4 (by omega);have he:=HE.o;obtain ⟨l2,hl2⟩: ∃l2,l2=oC z 4:=⟨_,rfl⟩;rw [←hl2]at HA hl4 he;obtain ⟨⟨ga,gc,rfl,ho⟩,hs,hx,hp⟩:=HA.o;have SX:=ae hl4;have Qc:=ae he;have HO:=ae ho;have HX:=ae hx;have HP:=ae hp
   clear hl4 he hl2 ho hs hx hp HA HE Yo HZ
   go_wp2_with (first
    |(refine gW rfl 48 _ rfl 57 (.agg #[i64 0,i64 0]) 2 16 underlying48 Tryz.info_acc (by decide) (by decide) [i64 4,i64 0] rfl rfl ?_
      intro W1 hB x1;have HB:=ae hB;have p9:=ae (HO.o.ext x1);have eE:=ae (HX.o.trans x1);have Ox:=ae x1.size;clear hB x1)
    |(at_builtin
      refine iw _ _ 48 57 (.agg #[i64 0,i64 0]) 2 16 rfl rfl underlying48 Tryz.info_acc rfl (by decide) (by decide) (ga:=ga) (gc:=gc) (rows:=h_ l2) (by rw [bC];rfl) (by rw [bC];exact p9.o) rfl HB.o rfl (by intro u hu;rcases List.mem_cons.1 hu with e|hu;subst e;rfl;rw [List.mem_singleton]at hu;subst hu;rfl) (by rw [bC];have:=SX.o;omega) (by have:=HP.o;have:=Ox.o;omega) ?_;intro g2 k2 W2 K mM hK x2;rw [bC,←nw l2 ((4:Int),(0:Int))]at mM;rw [bC];have o6:=ae mM;have ez:=ae (x2.ext eE.o (by have:=hK.o;have:=HP.o;omega));clear mM hK x2))
   go_ret;have hz2:(l2++ [((4:Int),(0:Int))]).length=l2.length+1:=by simp
   have Ge:mf c=l2++ [((4:Int),(0:Int))]:=Qc.o.symm;obtain ⟨a9,c9,e9,OV,-⟩:=o6.o.recs (by decide);rw [bC,hz2]at e9;cases e9
   exact ⟨ez.o,g2,k2,by rw [Ge,hz2];rfl,by rw [Ge];exact OV⟩
end Go.Proofs.YtkpngkdgphojlaaGreat
