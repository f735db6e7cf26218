/- Texts of the proof. -/
import Derived.Test.YtfokdakioeoniaaGreatCj46
set_option linter.all false
set_option maxHeartbeats 4000000
set_option maxRecDepth 100000
namespace Go.Proofs.YtfokdakioeoniaaGreat
open Go.Proofs.Tryz
open Go.RowKit
theorem fE.tight {w:World} {r:bE} {q:Rat} {B L:Nat} (h:dO w r q B) (hq:dW q<=L):fE w r q L:=
 ⟨h.lZ.mono hq,(h.short hq).1,(h.short hq).2⟩
theorem QA.ac8 {w:World} {K n:Nat} {g:Nat->Rat} {L:Nat} (h:QA w K n g L): ∃l:List QV,l.length=n/\(∀i (hi:i<l.length),fE w l[i].r (g i) L/\Gj l[i].r K)/\aY w K 63 (bX (l.map QV.r)):=by
 obtain ⟨vs,h1,h2,h3⟩:=h.arr
 have hx: ∀i,∃r:bE,i<n->vs[i*3]?=some (.bool r.s)/\vs[i*3+1]?=some (.slice r.a r.k r.c)/\vs[i*3+2]?=some (.slice r.b r.j r.d)/\fE w r (g i) L/\Gj r K:=λi=>by
  by_cases hi:i<n
  .obtain ⟨r,hr⟩:=h3 i hi;exact ⟨r,λ_=>hr⟩
  .exact ⟨⟨false,none,0,0,none,0,0⟩,λe=>absurd e hi⟩
 obtain ⟨R,hR⟩:=Classical.axiomOfChoice hx;refine ⟨(List.range n).map λi=>⟨R i,g i⟩,aX,λi hi=> ?_,?_⟩
 .rw [List.getElem_map,List.getElem_range]
  exact (hR i (by simpa using hi)).2.2.2
 .have e:vs=bX (((List.range n).map λi=>(⟨R i,g i⟩:QV)).map QV.r):=by
   refine List.ext_getElem? λj=> ?_;by_cases hj:j<n*3
   .obtain ⟨i,k,rfl,hk⟩: ∃i k,j=i*3+k/\k<3:=⟨j/3,j % 3,ae,ae⟩
    have hi:i<n:=ae;rw [dz _ i k (by simpa using hi) hk];obtain ⟨c0,c1,c2,-⟩:=hR i hi;simp only [List.map_map,List.getElem_map,List.getElem_range,Function.comp];match k,hk with
    |0,_=>exact c0
    |1,_=>exact c1
    |2,_=>exact c2
   .rw [List.getElem?_eq_none ae,List.getElem?_eq_none (by rw [eu];simp;omega)]
  rw [<-e];exact h2
def iu (W0:World) (v:Value) (qs:List Rat) (L:Nat) (w:World):Prop:= ∃rs:List bE,gG W0 w v rs qs L/\jh rs L
theorem iu.start {W0 w:World} (h:Ext W0 w) (L:Nat):iu W0 (.slice none 0 0) [] L w:=⟨[],gG.start h L,jh.nil L⟩
theorem gG.R_ {w wr wr':World} {v:Value} {rs:List bE} {qs:List Rat} {L:Nat} (h:gG w wr v rs qs L) (e:Ext wr wr'):gG w wr' v rs qs L:=
 ⟨h.len,fg h.own e,λk hk=>(h.num k hk).ext e,h.off,h.ext.trans e⟩
theorem iu.next {W0 w w':World} {v:Value} {qs:List Rat} {L:Nat} (h:iu W0 v qs L w) (x:Ext w w'):iu W0 v qs L w':=by
 obtain ⟨rs,h1,h2⟩:=h;exact ⟨rs,h1.R_ x,h2⟩
theorem iu.ext {W0 w:World} {v:Value} {qs:List Rat} {L:Nat} (h:iu W0 v qs L w):Ext W0 w:=by obtain ⟨rs,h1,-⟩:=h;exact h1.ext
theorem iu.blk {W0 w:World} {v:Value} {qs:List Rat} {L:Nat} (h:iu W0 v qs L w) {k:Nat} (hk:v.ownBlock=some k):k<w.heap.size:=by
 obtain ⟨rs,h1,-⟩:=h;exact (h1.own.lt k hk).2
theorem iu.off {W0 w:World} {v:Value} {qs:List Rat} {L B:Nat} (h:iu W0 v qs L w) {r:bE} {q:Rat} {w':World} (hc:dO w' r q B) (hB:w.heap.size<=B):xi r v.ownBlock:=by
 cases hv:v.ownBlock with
 |none=>exact ⟨λ_ _ _ e=>(nomatch e),λ_ _ _ e=>(nomatch e)⟩
 |some k=>exact om hc (Nat.lt_of_lt_of_le (h.blk hv) hB)
theorem iu.slice {W0 w:World} {v:Value} {qs:List Rat} {L:Nat} (h:iu W0 v qs L w) (hn:qs.length<=1000000): ∃(a:Option Addr) (c:Nat) (rs:List bE),v= .slice a qs.length c/\rs.length=qs.length/\jV w a c rs qs L/\jh rs L:=by
 obtain ⟨rs,h1,h2⟩:=h;have hl:=h1.len;obtain ⟨a,c,e,hr⟩:=h1.LP ae;exact ⟨a,c,rs,by rw [hl];exact e,hl.symm,hr,h2⟩
theorem gG.many {w wr w':World} {v v':Value} {rs TF:List bE} {qs qs2:List Rat} {L:Nat} (h:gG w wr v rs qs L) (hl2:qs2.length=TF.length) (Uc: ∀k (hk:k<TF.length),fI wr TF[k] (qs2[k]'(by omega)) L) (ho2: ∀k (hk:k<TF.length),xi TF[k] v.ownBlock)
 (ho:w'.ownsRow w.heap.size 63 3 v' (rs.length+TF.length) (bX rs++bX TF)) (hX:Ext w w') (hb: ∀k,k<wr.heap.size->some k≠v.ownBlock->w'.heap[k]?=wr.heap[k]?)
 (hv:v'.ownBlock=v.ownBlock\/ ∃g,v'.ownBlock=some g/\wr.heap.size<=g):gG w w' v' (rs++TF) (qs++qs2) L:=by
 have hl:=h.len;refine ⟨by simp [hl,hl2],by rw [List.length_append];simpa [bX]using ho,?_,?_,hX⟩
 .intro k hk
  rw [List.length_append]at hk;by_cases qJ:k<rs.length
  .rw [List.getElem_append_left qJ,List.getElem_append_left ae]
   exact (h.num k qJ).keep hb (h.off k qJ)
  .rw [List.getElem_append_right ae,List.getElem_append_right ae]
   have h1:=(Uc (k-rs.length) ae).keep hb (ho2 _ ae);simp only [hl];exact h1
 .intro k hk
  rw [List.length_append]at hk;by_cases qJ:k<rs.length
  .rw [List.getElem_append_left qJ]
   exact (h.off k qJ).next (h.num k qJ) hv
  .rw [List.getElem_append_right ae]
   exact (ho2 _ ae).next (Uc _ ae) hv
def oz (W0 w6:World) (v:Value) (w:World):Prop:=Ext W0 w/\ ∀k,k<w6.heap.size->some k≠v.ownBlock->w.heap[k]?=w6.heap[k]?
theorem oz.of {W0 w6 w:World} {v:Value} (h:Ext W0 w6) (x:Ext w6 w):oz W0 w6 v w:=⟨h.trans x,λk hk _=>x.below.block k hk⟩
theorem oz.app {W0 w6 w w':World} {v:Value} (x:Ext w6 w) (h:Ext W0 w') (hb: ∀k,k<w.heap.size->some k≠v.ownBlock->w'.heap[k]?=w.heap[k]?):oz W0 w6 v w':=
 ⟨h,λk hk hv=>by rw [hb k (Nat.lt_of_lt_of_le hk x.size) hv];exact x.below.block k hk⟩
theorem oz.arr {W0 w6 w:World} {v:Value} {B:Nat} {T:TypeId} {vs:List Value} (e:oz W0 w6 v w) (A:aY w6 B T vs) (hB:some B≠v.ownBlock):aY w B T vs:=by
 unfold aY;rw [e.2 B A.lt hB];exact A
theorem iu.ne {W0 w:World} {v:Value} {qs:List Rat} {L B:Nat} (h:iu W0 v qs L w) (hB:w.heap.size<=B):some B≠v.ownBlock:=λe=>by
 have:=h.blk e.symm;omega
section
variable{ops:Array Oper} {Q:Exit->Act->World->Prop} {rest:List Oper} {o:Oper} {a:Act} {w:World} {W0:World} {v:Value} {qs:List Rat} {L:Nat}
theorem mY {K:Act->World->Prop} (s x:Operand) (ho:o.op= .call {callee:= .builtin .append,args:= #[s,x],argTypes:= #[32,32]}) (hs:a.eval s=v) (hR:iu W0 v qs L w) (hn:qs.length<=100000) {B:Nat} {r:bE} {q:Rat}
 (hx:a.eval x= .slice (some ⟨B,0,none⟩) 1 1) (hB:aY w B 63 r.cells) (hr:fE w r q L) (hro:xi r v.ownBlock) (h: ∀v' w',iu W0 v' (qs++ [q]) L w'->Hid (∀k,k<w.heap.size->some k≠v.ownBlock->w'.heap[k]?=w.heap[k]?)->K (a.put o.dst v') w'):Oper.wp prog o a w K Q:=by
 obtain ⟨rs,hR,hS⟩:=hR;have hl:=hR.len;refine j4 w s x 32 ho W0.heap.size 63 (.agg iV.toArray) 3 56 underlying32 Tryz.info_rat rfl ai v rs.length (bX rs) hs hR.own (some ⟨B,0,none⟩) 1 1 r.cells hx rfl (λ_=>⟨_,rfl,λj u hj=>by rw [kt,hB.cell];exact hj⟩) (qW r) (λe=>by cases e) ae ai hR.ext.size ?_ ai;intro v1 w5 ho he hb hz hv;exact h v1 w5 ⟨_,hR.snoc hr.rat hro ho.o (he.o W0 hR.ext cG) hb.o hv.o,hS.snoc hr.k hr.j⟩ hb
theorem vv (s x:Operand) (hgd:o.guard=none) (ho:o.op= .call {callee:= .builtin .append,args:= #[s,x],argTypes:= #[32,32]}) (hs:a.eval s=v) (hR:iu W0 v qs L w) (hn:qs.length<=100000) {B:Nat} {r:bE} {q:Rat}
 (hx:a.eval x= .slice (some ⟨B,0,none⟩) 1 1) (hB:aY w B 63 r.cells) (hr:fE w r q L) (hro:xi r v.ownBlock) (h: ∀v' w',iu W0 v' (qs++ [q]) L w'->wpList prog ops Q rest (a.put o.dst v') w'):wpList prog ops Q (o::rest) a w:=
 wpList_plain hgd λK hK=>mY s x ho hs hR hn hx hB hr hro λv' w' h2 _=>hK _ _ (h v' w' h2)
theorem Er {K:Act->World->Prop} (s x:Operand) (ho:o.op= .call {callee:= .builtin .append,args:= #[s,x],argTypes:= #[32,32]}) (hs:a.eval s=v) (hR:iu W0 v qs L w) (hn:qs.length<=100000) {E n c:Nat} {g:Nat->Rat}
 (hx:a.eval x= .slice (some ⟨E,0,none⟩) n c) (h0:0<n/\n<=100000) (hq:QA w E n g L) (hE: ∀k,v.ownBlock=some k->k<=E) (h: ∀v' w',iu W0 v' (qs++nJ g n) L w'->K (a.put o.dst v') w'):Oper.wp prog o a w K Q:=by
 obtain ⟨rs,hR,hS⟩:=hR;have hl:=hR.len;obtain ⟨l,Qi,VG,hA⟩:=hq.ac8;have Hp:(l.map QV.r).length=n:=by rw [List.length_map,Qi]
 refine j4 w s x 32 ho W0.heap.size 63 (.agg iV.toArray) 3 56 underlying32 Tryz.info_rat rfl ai v rs.length (bX rs) hs hR.own (some ⟨E,0,none⟩) n c (bX (l.map QV.r)) hx (by rw [eu,Hp]) (λ_=>⟨_,rfl,λj u hj=>by rw [kt,hA.cell];exact hj⟩) (λu hu=> ?_) (λe=>by cases e) ae ai hR.ext.size ?_ h0.1
 .obtain ⟨r,_,hr⟩:=List.mem_flatMap.1 hu
  exact qW r u hr
 intro v1 w5 ho he hb hz hv;refine h v1 w5 ⟨rs++l.map QV.r,hR.many (by rw [cP,Hp]) (λk hk=> ?_) (λk hk=> ?_) (by rw [Hp];exact ho.o) (he.o W0 hR.ext cG) hb.o hv.o,λk hk=> ?_⟩
 .simp only [List.getElem_map,nJ,List.getElem_range]
  exact (VG k (by simpa using hk)).1.rat
 .rw [List.getElem_map]
  cases hv:v.ownBlock with
  |none=>exact ⟨λ_ _ _ e=>(nomatch e),λ_ _ _ e=>(nomatch e)⟩
  |some b=>exact (VG k (by simpa using hk)).2 b (hE b hv)
 .rw [List.length_append]at hk
  by_cases qJ:k<rs.length
  .rw [List.getElem_append_left qJ];exact hS k qJ
  .rw [List.getElem_append_right ae,List.getElem_map]
   have:=(VG (k-rs.length) (by rw [Qi];omega)).1;exact ⟨this.k,this.j⟩
end
theorem G7 (V:World) (r r':bE) (L:Nat) (h:fE V r' 0 L) (hL:L<=1000):Calls prog 152 #[.agg #[.bool r.s,.slice r.a r.k r.c,.slice r.b r.j r.d],.agg #[.bool r'.s,.slice r'.a r'.k r'.c,.slice r'.b r'.j r'.d]] V λe w'=>e= .returned (.tuple #[.agg #[.bool false,.slice none 0 0,.slice none 0 0],.bool false])/\Ext V w':=by
 have HS:=af (λU (x:Ext V U)=>LW U r' 0 L (h.ext x) hL);rw [show(0:Rat).num.sign=0 from rfl]at HS;clear h hL;go_enter func152,ntmps152
 go_upto_region 1 with fail
 generalize hW1:World.alloc V _=W1;generalize hW2:World.alloc W1 _=W2;generalize hW:World.alloc W2 _=W;obtain ⟨G,R,Z,hG,hR,hB,HX,oZ,xr,yC,nW⟩:=fw hW1 hW2 hW;rw [<-hG];try rw [hR]
 try rw [hB]
 clear hW hW1 hW2 hG hR hB;have K: ∀Y,Ext W Y->_:=λY e=>(xr.o.ext e).cs;replace K:=gO K;have s:=Ext.refl W;go_wp2_with fail
 refine (HS.o W HX.o).mono ?_;rintro e w1 ⟨rfl,x1⟩;replace s:=s.trans x1;have py:=yC.o.ext s;go_wp2_with (refine cA rfl 63 _ _ rfl Z [.bool false,.slice none 0 0,.slice none 0 0] [.bool false,.slice none 0 0,.slice none 0 0] py rfl rfl aw rfl rfl ?_;intro EH rH ji)
 refine bodyPost_ret (v:= .tuple #[.agg #[.bool false,.slice none 0 0,.slice none 0 0],.bool false]) (jE 4 5 _ rfl rfl rfl rH underlying63 rfl aw) rfl ?_;exact ⟨rfl,ji.ext (HX.o.trans s) nW.o.2.2⟩
theorem Es (V:World) (r r':bE) (L:Nat) (h:fE V r' 0 L) (hL:L<=1000):Calls prog 75 #[.agg #[.bool r.s,.slice r.a r.k r.c,.slice r.b r.j r.d],.agg #[.bool r'.s,.slice r'.a r'.k r'.c,.slice r'.b r'.j r'.d]] V λe w'=>e= .returned (.agg #[.bool false,.slice none 0 0,.slice none 0 0])/\Ext V w':=by
 have HS:=af (λU (x:Ext V U)=>G7 U r r' L (h.ext x) hL);clear h hL;go_enter func75,ntmps75
 go_upto_region 1 with fail
 generalize hW1:World.alloc V _=W1;generalize hW2:World.alloc W1 _=W2;generalize hW:World.alloc W2 _=W;obtain ⟨G,R,Z,hG,hR,hB,HX,oZ,xr,yC,nW⟩:=fw hW1 hW2 hW;rw [<-hG];try rw [hR]
 try rw [hB]
 clear hW hW1 hW2 hG hR hB;have K: ∀Y,Ext W Y->_:=λY e=>(xr.o.ext e).cs;have K1: ∀Y,Ext W Y->_:=λY e=>(oZ.o.ext e).cs;replace K:=gO K;replace K1:=gO K1;have s:=Ext.refl W;go_wp2_with fail
 refine (HS.o W HX.o).mono ?_;rintro e w1 ⟨rfl,x1⟩;replace s:=s.trans x1;clear K K1 x1;go_upto_region 2 with(refine aT rfl 63 _ _ rfl _ [.bool false,.slice none 0 0,.slice none 0 0] rfl rfl aw rfl rfl ?_)
 generalize t_:World.alloc w1 _=w5;obtain ⟨B3,Gm,x5,A5⟩:=aI t_;rw [<-Gm];try simp only [Act.put]
 replace s:=s.trans x5;have KA:=λY (e:Ext w5 Y)=>(A5.ext e).cs;replace KA:=gO KA;have py:=yC.o.ext s;have s5:=Ext.refl w5;have UZ:=af s;clear t_ Gm A5 x5 s;go_wp2_with (refine cA rfl 63 _ _ rfl Z [.bool false,.slice none 0 0,.slice none 0 0] [.bool false,.slice none 0 0,.slice none 0 0] py rfl rfl aw rfl rfl ?_;intro EH rH ji)
 refine bodyPost_ret (v:= .agg #[.bool false,.slice none 0 0,.slice none 0 0]) (ib 4 _ rfl rfl rH underlying63 rfl aw) rfl ?_;exact ⟨rfl,ji.ext (HX.o.trans UZ.o) nW.o.2.2⟩
theorem Jz (V:World) (r r':bE) (q q':Rat) (L L':Nat) (h:fE V r q L) (h':fE V r' q' L') (hL:1<=L/\1<=L'/\L<=1000/\L'<=1000:=by omega):Calls prog 75 #[.agg #[.bool r.s,.slice r.a r.k r.c,.slice r.b r.j r.d],.agg #[.bool r'.s,.slice r'.a r'.k r'.c,.slice r'.b r'.j r'.d]] V λe w'=> ∃r2:bE,e= .returned (.agg #[.bool r2.s,.slice r2.a r2.k r2.c,.slice r2.b r2.j r2.d])/\fE w' r2 (q/q') (L+L'+2)/\Ext V w':=by
 have hs:=En q q';have h1:=h.rat.dW;have h2:=h'.rat.dW
 by_cases h0:q'=0
 .subst h0
  refine (Es V r r' L' h' hL.2.2.2).mono λe w' hh=>⟨⟨false,none,0,0,none,0,0⟩,hh.1,?_,hh.2⟩;rw [Rat.div_def,Rat.inv_zero,Rat.mul_zero];exact (sK w').mono ae
 .obtain ⟨⟨n,m,a1,a2,rfl,a3,a4⟩,ak,aj⟩:=h
  obtain ⟨⟨n',m',b1,b2,hq,b3,b4⟩,bk,bj⟩:=h';rw [hq]at hs h2⊢h0;refine (Q6 V _ _ _ _ _ _ _ _ _ a1 a2 _ _ _ _ _ _ _ _ _ b1 b2 ae ae ae ae h0).mono λe w' hh=> ?_;obtain ⟨r2,e2,hn,-,x⟩:=fE.new (L:=L+L'+2) hh ae;exact ⟨r2,e2,hn,x⟩
theorem fE.app {w w':World} {r:bE} {q:Rat} {L:Nat} {v:Value} (h:fE w r q L) (ho:xi r v.ownBlock) (hb: ∀k,k<w.heap.size->some k≠v.ownBlock->w'.heap[k]?=w.heap[k]?):fE w' r q L:=⟨h.rat.keep hb ho,h.k,h.j⟩
theorem xi.PH {w:World} {r:bE} {q:Rat} {L:Nat} {v v':Value} (h:fE w r q L) (ho:xi r v.ownBlock) (hv:v'.ownBlock=v.ownBlock\/ ∃g,v'.ownBlock=some g/\w.heap.size<=g):xi r v'.ownBlock:=ho.next h.rat hv
theorem eA.RS {W0 w w':World} {E E2 L:Nat} {q:Rat} {r0:bE} (h:eA W0 E2 q L w) (A:aY w E 63 r0.cells) (x:aH E w w') (hE:E2≠E) (h0:W0.heap.size<=E):eA W0 E2 q L w':=by
 obtain ⟨r,h1,h2⟩:=h.num;exact ⟨x.ext h.ext h0,h.le,r,h1.gw x hE,h2.vu A x⟩
theorem oz.next {W0 w6 w w':World} {v:Value} (h:oz W0 w6 v w) (hs:w6.heap.size<=w.heap.size) (x:Ext w w'):oz W0 w6 v w':=⟨h.1.trans x,λk hk hv=>by rw [x.below.block k (Nat.lt_of_lt_of_le hk hs)];exact h.2 k hk hv⟩
section
variable{P:Program} {ops:Array Oper} {Q:Exit->Act->World->Prop} {rest:List Oper} {o:Oper} {a:Act} {w:World}
theorem xO (s x:Operand) (t e:TypeId) (z:Value) (size bytes:Nat) (hgd:o.guard=none) (ho:o.op= .call {callee:= .builtin .append,args:= #[s,x],argTypes:= #[t,t]})
 (ht:P.underlying t=some (.slice e)) (kD:(P.info? e).map (λi=>(i.zero,i.size,i.bytes))=some (some z,size,bytes)) (hzs:z.cells.size=size) (hsz:0<size) (hby:bytes<=100)
 {D:Nat} {ga:Option Addr} {gc:Nat} {rows:List (List Value)} (hs:a.eval s= .slice ga rows.length gc) (own:cj w D e size (.slice ga rows.length gc) rows)
 {B:Nat} {r:List Value} (hx:a.eval x= .slice (some ⟨B,0,none⟩) 1 1) (hB:aY w B e r) (hr:r.length=size) (h1: ∀u∈r,u.oneCell'=true) (h63:rows.length<=1100000000000) (hD:D<=w.heap.size)
 (h: ∀g2 k2 w' K,cj w' D e size (.slice g2 (rows.length+1) k2) (rows++ [r])->Hid (D<=K/\(K=w.heap.size\/ ∃q,ga=some q/\q.block=K))->aH K w w'->wpList P ops Q rest (a.put o.dst (.slice g2 (rows.length+1) k2)) w'):wpList P ops Q (o::rest) a w:=by
 refine fC _ hgd s x t ho D e z size bytes ht kD hzs hsz _ rows.length rows.flatten hs own.own (some ⟨B,0,none⟩) 1 1 r hx ae (λ_=>⟨_,rfl,λj u hj=> ?_⟩) h1 (λe=>by cases e) ae hby hD ?_
 .rw [kt,hB.cell];exact hj
 intro v1 w5 ho he hb hz hv;obtain ⟨g2,k2,rfl⟩:=CB ho.o;obtain ⟨K,hKb,hKe,hKx⟩:=Aj (base:=D) (v:= .slice ga rows.length gc) hD (λk q=>(own.own.lt k q).1) he.o hb.o hz.o;refine h g2 k2 w5 K (own.snoc hr ho.o) ⟨hKb,?_⟩ hKx;rcases hKe with q|q
 .exact .inl q
 .cases ga with
  |none=>cases q
  |some q'=>exact .inr ⟨q',rfl,by have e2:some q'.block=some K:=q;cases e2;rfl⟩
end
theorem Tryz.info_acc:(Tryz.prog.info? 135).map (λi=>(i.zero,i.size,i.bytes))=some (some (.agg #[i64 0,i64 0]),2,16):=aw
def mZ (l:List (Int×Int)):List (List Value):=l.map λx=> [i64 x.1,i64 x.2]
theorem dF (l:List (Int×Int)):(mZ l).length=l.length:=by simp [mZ]
theorem vw (l:List (Int×Int)) (x:Int×Int):mZ (l++ [x])=mZ l++ [[i64 x.1,i64 x.2]]:=by simp [mZ]
def pA (k:Int) (n:Nat):List (Int×Int):=(List.range n).map λ(i:Nat)=>(k,(i:Int))
theorem cV (k:Int) (n:Nat):(pA k n).length=n:=by simp [pA]
theorem MW (k:Int) (n:Nat):pA k (n+1)=pA k n++ [(k,(n:Int))]:=by simp [pA,List.range_succ]
def lH (c:aq):List (Int×Int):=pA 0 c.ay.length++pA 1 c.stores.length++pA 2 c.bF.length++pA 3 c.ar.length++pA 4 1
def rO (z:Nat->Nat):Nat->List (Int×Int)
 |0=> []
 |k+1=>rO z k++pA k (z k)
structure JE (V:World) (S D:Nat) (zs:List Nat) (l:List (Int×Int)) (v:Value) (w:World):Prop where
 own: ∃ga gc,v= .slice ga l.length gc/\cj w D 135 2 (.slice ga l.length gc) (mZ l)
 sz:aY w S 202 (zs.map λ(n:Nat)=> .int .i64 (n:Int))
 ext:Ext V w
 pos:V.heap.size<=S/\S<D/\D<=w.heap.size
theorem Eu (V:World) (c:aq) (hc:bK V c) (hn:c.ay.length+c.stores.length+c.bF.length+c.ar.length<=10000):
 Calls prog 76 #[.agg (C8 c)] V λe w'=>Ext V w'/\ ∃ga gc,e= .returned (.slice ga (lH c).length gc)/\di w' 2 ga gc (mZ (lH c)):=by
 try unfold C8
 have pj:=hc.ay.le;have Ar:=hc.stores.le;have Gn:=hc.bF.le;have nE:=hc.ar.le
 have Y3:=hc.ay.cap;have Y4:=hc.stores.cap;have Y5:=hc.bF.cap;have OZ:=hc.ar.cap
 rw [List.length_map]at nE pj Ar Gn;have HN:=af hn;clear hc hn;go_enter func76,ntmps76
 go_upto_region 1 with fail
 generalize hW:World.alloc V _=W;obtain ⟨B,hB,x,A⟩:=aI hW;rw [<-hB];have HX:=af x;obtain ⟨k0,k1,k2,k3,k4,k5,k6,k7⟩:=aq.at A;clear hW hB A x;go_upto_region 3 with fail
 generalize hW2:World.alloc W _=W2;obtain ⟨S,hS,x2,A2⟩:=aI hW2;rw [<-hS];obtain ⟨zs,hzs⟩: ∃zs:List Nat,zs= [c.ay.length,c.stores.length,c.bF.length,c.ar.length]:=⟨_,rfl⟩;obtain ⟨z,hz⟩: ∃z:Nat->Nat,z=λi=>zs[i]?.getD 0:=⟨_,rfl⟩
 have HZ:Hid (∀i,i<4-> ∃h:i<zs.length,zs[i]=z i/\z i<=10000):=by
  intro i hi;have:=HN.o;subst hz hzs;rcases (show i=0\/i=1\/i=2\/i=3 by omega)with rfl|rfl|rfl|rfl<;>exact ⟨aX,rfl,by simp;omega⟩
 have HE:Hid (rO z 4++pA 4 1=lH c):=by
  subst hz hzs;show _=_;simp [rO,lH]
 have AD:Hid (∀k,k<=4->(rO z k).length<=10000):=by
  intro k hk;have:=HN.o;subst hz hzs;rcases (show k=0\/k=1\/k=2\/k=3\/k=4 by omega)with rfl|rfl|rfl|rfl|rfl<;>simp [rO,cV]<;>omega
 obtain ⟨D,hD⟩: ∃D,D=W2.heap.size:=⟨_,rfl⟩
 have H0:Hid (JE V S D zs [] (.slice none 0 0) W2):=by
  have h1:=A2.lt;have h2:=HX.o.size
  exact ⟨⟨none,0,rfl,cj.nil _ _ _ _⟩,by rw [hzs];exact A2,HX.o.trans x2,ae⟩
 clear hW2 hS x2 A2 hzs hz hD k0 k1 k2 k3 k4 k5 k6 k7 HX pj Ar Gn nE Y3 Y4 Y5 OZ;go_wp2
 go_loopw [3,5] (λv kv wr=> ∃k:Nat,k<=4/\JE V S D zs (rO z k) v wr/\kv= .int .i64 (k:Int)) (λ_ kv _=>4-(intOf kv).toNat)
 case atStart=>exact ⟨0,ae,H0.o,rfl⟩
 case round=>
  obtain ⟨k,hk,hA,rfl⟩:=hrel;clear H0;have HA:=af hA;clear hA;by_cases hlt:k<4
  .have bk:(k:Int)<4:=ae
   obtain ⟨hkz,Kl,hkm⟩:=HZ.o k hlt;have HKZ:Hid (∃h:k<zs.length,zs[k]=z k):=⟨hkz,Kl⟩;have HKM:=af hkm;have lT:=af (AD.o k hk)
   have q1:IntKind.i64.wrap ((k:Int)+1)=((k+1:Nat):Int):=nY;have hU:rO z (k+1)=rO z k++pA k (z k):=rfl;have HU:=af hU;obtain ⟨l0,hl0⟩: ∃l0,l0=rO z k:=⟨_,rfl⟩;obtain ⟨n,hn⟩: ∃n,n=z k:=⟨_,rfl⟩;rw [<-hl0,<-hn]at HU;rw [<-hl0]at HA lT;rw [<-hn]at HKZ HKM;clear hkz Kl hkm hU hl0 hn;go_wp2
   go_loopw [3,6] (λv jv wr=> ∃j:Nat,j<=n/\JE V S D zs (l0++pA k j) v wr/\jv= .int .i64 (j:Int)) (λ_ jv _=>n-(intOf jv).toNat)
   case atStart=>exact ⟨0,bm,by simpa [pA]using HA.o,rfl⟩
   case round=>
    obtain ⟨j,hj,hA,rfl⟩:=hrel;clear HA;obtain ⟨l2,hl2⟩: ∃l2,l2=l0++pA k j:=⟨_,rfl⟩;have Xf:l0++pA k (j+1)=l2++ [((k:Int),(j:Int))]:=by rw [MW,<-List.append_assoc,hl2]
    have hl4:l2.length<=20000:=by rw [hl2,List.length_append,cV];have:=lT.o;have:=HKM.o;omega
    rw [<-hl2]at hA;have HL2:=af hl2;clear hl2;obtain ⟨⟨ga,gc,rfl,ho⟩,hs,hx,hp⟩:=hA
    have cs:wr.cell? ⟨S,k,none⟩=some (.int .i64 (n:Int)):=by
     obtain ⟨h1,h2⟩:=HKZ.o;rw [hs.cell k,List.getElem?_map,List.getElem?_eq_getElem h1,h2];rfl
    have HO:=af ho;have HS:=af hs;have HX:=af hx;have HP:=af hp;have HL4:=af hl4;have HL3:=af Xf
    clear ho hs hx hp hl4 Xf;by_cases hjn:j<n
    .have b1:(j:Int)<(n:Int):=ae
     have q2:IntKind.i64.wrap ((j:Int)+1)=((j+1:Nat):Int):=by rw [IntKind.wrap_i64];have:=HKM.o;omega
     go_wp2_with (first
      |(refine lW rfl 131 _ rfl 135 (.agg #[i64 0,i64 0]) 2 16 underlying131 Tryz.info_acc ai ai [i64 (k:Int),i64 (j:Int)] rfl rfl ?_
        intro W1 hB x1;have HB:=af hB;have HO1:=af (HO.o.ext x1);have xq:=af (HS.o.ext x1);have jZ:=af (HX.o.trans x1);have TA:=af x1.size;clear hB x1)
      |(at_builtin
        refine xO _ _ 131 135 (.agg #[i64 0,i64 0]) 2 16 rfl rfl underlying131 Tryz.info_acc rfl ai ai (ga:=ga) (gc:=gc) (rows:=mZ l2) (by rw [dF];rfl) (by rw [dF];exact HO1.o) rfl HB.o rfl (by intro u hu;rcases List.mem_cons.1 hu with e|hu;subst e;rfl;rw [List.mem_singleton]at hu;subst hu;rfl) (by rw [dF];have:=HL4.o;omega) (ux HP.o TA.o) ?_;intro g2 k2 W2 K NA hK x2;rw [dF,<-vw l2 ((k:Int),(j:Int))]at NA;rw [dF];have Vn:=af NA;have mf:=af (xq.o.but x2 (ux hK.o HP.o));have kz:=af (x2.ext jZ.o (ux hK.o HP.o));have RV:=af x2.size;clear NA hK x2))
     have hz2:(l2++ [((k:Int),(j:Int))]).length=l2.length+1:=aX
     have HF:Hid (JE V S D zs (l0++pA k (j+1)) (.slice g2 (l2.length+1) k2) W2):=by
      show JE _ _ _ _ _ _ _;rw [HL3.o];exact ⟨⟨g2,k2,by rw [hz2],by rw [hz2];exact Vn.o⟩,mf.o,kz.o,HP.o.1,HP.o.2.1,aO3 HP.o TA.o RV.o⟩
     exact ⟨⟨j+1,ae,HF.o,bq⟩,bz⟩
    .obtain rfl:j=n:=ae
     have HF:Hid (JE V S D zs (rO z (k+1)) (.slice ga l2.length gc) wr):=by
      show JE _ _ _ _ _ _ _;rw [HU.o,<-HL2.o];exact ⟨⟨ga,gc,rfl,HO.o⟩,HS.o,HX.o,HP.o⟩
     have b1: ¬(j:Int)<(j:Int):=ae;go_wp2
     exact ⟨⟨k+1,ae,HF.o,bq⟩,bz⟩
  .obtain rfl:k=4:=ae
   have hl4:=AD.o 4 ae;have he:=HE.o;obtain ⟨l2,hl2⟩: ∃l2,l2=rO z 4:=⟨_,rfl⟩;rw [<-hl2]at HA hl4 he;obtain ⟨⟨ga,gc,rfl,ho⟩,hs,hx,hp⟩:=HA.o;have HL4:=af hl4;have Qr:=af he;have HO:=af ho;have HX:=af hx;have HP:=af hp
   clear hl4 he hl2 ho hs hx hp HA HE AD HZ
   go_wp2_with (first
    |(refine lW rfl 131 _ rfl 135 (.agg #[i64 0,i64 0]) 2 16 underlying131 Tryz.info_acc ai ai [i64 4,i64 0] rfl rfl ?_
      intro W1 hB x1;have HB:=af hB;have HO1:=af (HO.o.ext x1);have jZ:=af (HX.o.trans x1);have TA:=af x1.size;clear hB x1)
    |(at_builtin
      refine xO _ _ 131 135 (.agg #[i64 0,i64 0]) 2 16 rfl rfl underlying131 Tryz.info_acc rfl ai ai (ga:=ga) (gc:=gc) (rows:=mZ l2) (by rw [dF];rfl) (by rw [dF];exact HO1.o) rfl HB.o rfl (by intro u hu;rcases List.mem_cons.1 hu with e|hu;subst e;rfl;rw [List.mem_singleton]at hu;subst hu;rfl) (by rw [dF];have:=HL4.o;omega) (ux HP.o TA.o) ?_;intro g2 k2 W2 K NA hK x2;rw [dF,<-vw l2 ((4:Int),(0:Int))]at NA;rw [dF];have Vn:=af NA;have kz:=af (x2.ext jZ.o (ux hK.o HP.o));clear NA hK x2))
   go_ret;have hz2:(l2++ [((4:Int),(0:Int))]).length=l2.length+1:=aX;have DF:lH c=l2++ [((4:Int),(0:Int))]:=Qr.o.symm;obtain ⟨a9,c9,e9,Nl,-⟩:=Vn.o.recs ai;rw [dF,hz2]at e9;cases e9
   exact ⟨kz.o,g2,k2,by rw [DF,hz2];rfl,by rw [DF];exact Nl⟩
theorem PJ (V:World) (c:aq) (S:aQ) (p:aU) (h:Nat) (hc:bK V c) (hA:Acc c) (hs:eM V S 4) (hp:fS V p 4) (ur:eY c S) (hf:mQ c p) (hh:(h:Int)<c.hours):
 Calls prog 73 #[.agg (C8 c),.agg S.cells.toArray,.agg p.cells.toArray,.int .i64 (h:Int)] V (λe w'=> ∃K,e= .returned (.slice (some ⟨K,0,none⟩) c.ar.length c.ar.length)/\QA w' K c.ar.length (EL c S p h) 325/\V.heap.size<=K/\Ext V w'):=by
 try unfold C8
 have HC:=af hc;have HA:=af hA;have HS:=af hs;have HP:=af hp;have kX:=af ur;have td:=af hf;have HH:=af hh
 have EJ:Hid (c.ar.length<=32/\c.ay.length<=16):=⟨hA.ok.frame.ar.2,hA.ok.frame.ay⟩;have nE:=hc.ar.lens;have Ar:=hs.ay.lens;have Gn:=hp.bC.le
 have k6:(0:Int)<=(h:Int):=Int.natCast_nonneg h;clear hc hA hs hp ur hf hh;unfold aQ.cells aU.cells at*;go_enter func73,ntmps73
 go_upto_region 1 with fail
 generalize hW1:World.alloc V _=W1;generalize hW2:World.alloc W1 _=W2;generalize hW:World.alloc W2 _=W;obtain ⟨G,R,B,hG,hR,hB,HB,dY,gH,iU,nW⟩:=fw hW1 hW2 hW;rw [<-hG];try rw [hR]
 try rw [hB]
 clear hW hW1 hW2 hG hR hB;have K: ∀Y,Ext W Y->_:=λY e=>aq.at (dY.o.ext e);have s:=Ext.refl W;go_upto_region 2 with(refine jr _ rfl _ _ 32 rfl 63 (.agg iV.toArray) 56 underlying32 Tryz.info_rat rfl _ _ c.ar.length rfl rfl bq bq (dB EJ.o) (dB EJ.o) ?_;intro W0 EK hx0 hz0)
 obtain ⟨E,hE⟩: ∃E,E=W.heap.size:=⟨_,rfl⟩;rw [<-hE]at EK⊢;have HI:Hid (rL W E c.ar.length (λj=>if j<0 then jG c S h j else 0) 6 W0):=⟨hx0,ae,((QA.Ea EK.o).mono ae).congr λi _=>aX⟩;clear EK hx0 hz0 hE s K;have s:=Ext.refl W0
 go_upto_block 0 with fail
 go_cut [] (λwx=>rL W E c.ar.length (jG c S h) 6 wx)
 case first=>
  as_aux_lemma=>
   go_wp2
   go_loopw [25] (λii wr=> ∃i:Nat,i<=c.ar.length/\ii= .int .i64 i/\rL W E c.ar.length (λj=>if j<i then jG c S h j else 0) 6 wr) (λii _=>c.ar.length-(intOf ii).toNat)
   case atStart=>exact ⟨0,bm,rfl,HI.o⟩
   case round=>
    clear HI s;obtain ⟨i,hi,rfl,hI⟩:=hrel;have HI:=af hI;clear hI;by_cases hlt:i<c.ar.length
    .have b1:(i:Int)<(c.ar.length:Int):=Int.ofNat_lt.2 hlt
     have b0:(0:Int)<=(i:Int):=Int.natCast_nonneg i;obtain ⟨b,ob,x,hx,K2⟩:=eZ (dY.o.ext HI.o.ext) (HC.o.ext (HB.o.trans HI.o.ext)).ar 2 rfl i hlt
     have CF:Hid ((x.eE.length:Int)=c.hours/\cJ 0 1048576 x.eE=true/\bV wr x.da x.dc x.eE/\kO c i h=kE x.eE h):=by
      show _/\_/\_/\_;obtain ⟨wZ,zD,-⟩:=HA.o.ok.fc _ (List.getElem_mem hlt);rw [DZ hlt,hx.o];exact ⟨wZ,zD,((HC.o.ext (HB.o.trans HI.o.ext)).fc _ (List.getElem_mem hlt)).2.1,rfl⟩
     obtain ⟨xn,xa,xc,xl,xs⟩:=x;dsimp only at CF
     have D_:h<xl.length:=ux CF.o.1 HH.o;obtain ⟨b3,o3,z,rfl,hz,Pd,K3⟩:=pg CF.o.2.2.1 h D_
     have HZ:Hid (z=kO c i h/\0<=z/\z<=1048576):=by
      have h1:=yT CF.o.2.1 h D_;rw [gh D_,<-hz.o]at h1;exact ⟨by rw [CF.o.2.2.2,gh D_,hz.o],h1⟩
     replace K2:=jo K2;have k3:(h:Int)<(xl.length:Int):=Int.ofNat_lt.2 D_;clear hx hz Pd CF D_;obtain ⟨a1,a2,a3,a4,a5,a6,re,He,Tv,Nz,Ke⟩:=ie (j:=5) (gH.o.ext HI.o.ext) ((HS.o.ext (HB.o.trans HI.o.ext)).kT S.er aX) rfl kX.o.er i h b1 HH.o;obtain ⟨rg,-,KG⟩:=HI.o.own.get i hlt;have lT:=af HI.o.own.lt;have dK:=HI;have s:=Ext.refl wr;clear HI;go_upto_region 5 with fail
     refine zG 22 (λw=>Ext wr w) (s.drew) λs=> ?_;generalize wr.drew=Y at*;refine zV 0 s ?_;refine zV 1 s ?_;refine zV 2 s ?_;refine zV 4 s ?_;refine zV 8 s ?_;refine zV 12 s ?_;refine zV 14 s ?_;refine zV 17 s ?_;refine zV 3 s ?_;refine zV 13 s ?_;refine zV 5 s ?_;refine zV 15 s ?_;refine zV 6 s ?_;refine zV 16 s ?_;refine zV 7 s ?_;refine zV 18 s ?_;refine zV 9 s ?_;refine zV 19 s ?_;refine zV 10 s ?_;have sz:=Nat.lt_of_lt_of_le lT.o s.size;refine zN 11 s (CD _ z (dB HZ.o) (dB HZ.o)) λr1 N7 cD bJ x s=> ?_;have RH:=af (iG bJ.o sz);clear x bJ sz;have sz:=Nat.lt_of_lt_of_le lT.o s.size;refine zN 20 s (rI _ _ _ _ _ 1 4 cD.o (He.o.ext s)) λr2 w20 dL bJ x s=> ?_;have wJ:=af (iG bJ.o sz);clear x bJ sz;refine zV 21 s ?_;have kW:=af (dK.o.next s);have f3:=λi=>kW.o.own.frozen i;refine zL 22 λK' hK=> ?_;rw [if_pos bQ];go_simp;refine hK.o _ _ ?_;clear hK K' f3;have Kv:=kW.o.own.put i hlt dL.o wJ.o;have mJ:=af ((kW.o.but Kv.2 Kv.1).congr (g':=λj=>if j<i+1 then jG c S h j else 0) λj _=>Lc (A:=jG c S h) i j (by rw [HZ.o.1];rfl));clear Kv;clear s;generalize World.setCell _ _ _=W9 at mJ⊢;go_wp2
     exact ⟨⟨i+1,hlt,bq,mJ.o⟩,bz⟩
    .obtain rfl:i=c.ar.length:=ae
     clear hlt hi;have s:=Ext.refl wr;go_wp2
     go_meet
     exact HI.o.congr λj hj=>if_pos hj
 case rest=>
  have dK:=af hcut;generalize wc=W9 at*;clear HI s hcut;have HI:=dK;clear dK;have HQ:=af HI.o.own;have HX:=af HI.o.ext;replace HB:=af (HB.o.trans HX.o);replace dY:=af (dY.o.ext HX.o);replace gH:=af (gH.o.ext HX.o);replace iU:=af (iU.o.ext HX.o)
  clear HI HX;have s:=Ext.refl W9;go_wp2_with fail
  refine (CD W9 0 ai ai).mono ?_;rintro e w6 ⟨r0,rfl,rY,-,x6⟩;have MO:=af rY;go_upto_region 8 with(refine aT rfl 63 _ _ rfl _ [.bool r0.s,.slice r0.a r0.k r0.c,.slice r0.b r0.j r0.d] rfl rfl aw rfl rfl ?_)
  generalize K8:World.alloc w6 _=W7;obtain ⟨E2,hE,x7,A7⟩:=aI K8;rw [<-hE];try simp only [Act.put]
  have HI:Hid (eA w6 E2 (eL (λi=>uw S i h) 0) (1+5*0) W7):=eA.kP ⟨x7,ae,r0,A7,MO.o.ext x7⟩ (by show((0:Int):Rat)=(0:Rat);decide);replace HB:=af (HB.o.trans x6);replace dY:=af (dY.o.ext x6);replace gH:=af (gH.o.ext x6);replace iU:=af (iU.o.ext x6);replace HQ:=af (HQ.o.ext x6)
  clear K8 hE x7 A7 MO rY x6 s;have s:=Ext.refl W7;have K1: ∀Y,Ext W7 Y->_:=λY e=>((gH.o.ext HI.o.ext).ext e).cs;replace K1:=gO K1
  go_upto_block 2 with fail
  go_cut [] (λwx=>eA w6 E2 (eL (λi=>uw S i h) S.ay.length) (1+5*S.ay.length) wx)
  case first=>
   as_aux_lemma=>
    go_wp2
    go_loopw [55] (λii wr=> ∃i:Nat,i<=S.ay.length/\ii= .int .i64 i/\eA w6 E2 (eL (λi=>uw S i h) i) (1+5*i) wr) (λii _=>S.ay.length-(intOf ii).toNat)
    case atStart=>exact ⟨0,bm,rfl,HI.o⟩
    case round=>
     clear HI s K1;obtain ⟨i,hi,rfl,hI⟩:=hrel;have HI:=af hI;clear hI;by_cases hlt:i<S.ay.length
     .have b1:(i:Int)<(S.ay.length:Int):=Int.ofNat_lt.2 hlt
      have b0:(0:Int)<=(i:Int):=Int.natCast_nonneg i;obtain ⟨b,o,x,ha,hx,K2⟩:=(HS.o.ext (HB.o.trans HI.o.ext)).ay.pick i hlt;have HXI:=af ((HS.o.ext (HB.o.trans HI.o.ext)).unit x (by rw [hx.o];exact List.getElem_mem hlt)).2.2
      have Nv:Hid ((x.r.l.length:Int)=c.hours/\x.r.q h=uw S i h):=by
       show _/\_;rw [Eb hlt,hx.o];exact ⟨(kX.o.unit _ (List.getElem_mem hlt)).2.2,rfl⟩
      replace K2:=jo K2;rw [ha];clear ha hx;have s:=Ext.refl wr;go_upto_region 11 with(refine aT rfl 41 _ _ rfl _ x.cells rfl rfl aw rfl rfl ?_)
      generalize hW2:World.alloc wr _=W2;obtain ⟨D2,Cf,x2,A2⟩:=aI hW2;rw [<-Cf];try simp only [Act.put]
      have dK:=af (HI.o.next x2);obtain ⟨b5,o5,re,He,Nz,Ke⟩:=jP (j:=2) A2 (HXI.o.ext x2) rfl h (ux Nv.o.1 HH.o);have BV:Hid (i<16):=by have:=EJ.o;have:=kX.o.ay;show _<_;omega
      obtain ⟨rs,Hs,KS⟩:=dK.o.get;clear A2 x2 Cf hW2 K2 s HI;refine zG 7 (λw=>Ext W2 w) ((Ext.refl W2).drew) λs=> ?_;generalize W2.drew=Y at*;refine zV 0 s ?_;refine zV 1 s ?_;refine zV 3 s ?_;refine zV 2 s ?_;refine zV 4 s ?_;refine zV 5 s ?_;refine zN 6 s (vq _ _ _ _ _ (1+5*i) 4 (Hs.o.ext s) (He.o.ext s) (dB BV.o)) λr2 w6 dL bJ x s=> ?_;clear x bJ;have kW:=af (dK.o.next s);have f3:=λi=>kW.o.frozen i;refine zL 7 λK' hK=> ?_;rw [if_pos bQ];go_simp;refine hK.o _ _ ?_;clear hK K' f3;have mJ:=af (((kW.o.put dL.o).mono (show _<=1+5*(i+1) by omega)).kP (q':=eL (λi=>uw S i h) (i+1)) (by rw [Nv.o.2];rfl));unfold mK at mJ;clear s;generalize World.setCell _ _ _=W9 at mJ⊢;go_wp2
      exact ⟨⟨i+1,hlt,bq,mJ.o⟩,bz⟩
     .obtain rfl:i=S.ay.length:=ae
      clear hlt hi;have s:=Ext.refl wr;go_wp2
      go_meet
      exact HI.o
  case rest=>
   have dK:=af hcut;generalize wc=W9 at*;clear HI s hcut K1;have HI:=dK;clear dK;obtain ⟨rs,Hs,KS⟩:=HI.o.get;have Ro:Hid (1+5*S.ay.length<=81):=by have:=EJ.o;have:=kX.o.ay;show _<=_;omega
   replace Hs:=af (Hs.o.mono Ro.o);have HX:=af HI.o.ext;replace HB:=af (HB.o.trans HX.o);replace dY:=af (dY.o.ext HX.o);replace gH:=af (gH.o.ext HX.o);replace iU:=af (iU.o.ext HX.o);replace HQ:=af (HQ.o.ext HX.o)
   clear HI HX;have EG:(p.bC.l.length:Int)=c.hours:=td.o.bC;obtain ⟨b5,o5,re,He,Nz,Ke⟩:=jP (j:=1) iU.o (HP.o.bC.ext HB.o) rfl h (dB HH.o);clear EG;obtain ⟨ql,NW,HQR,LJ⟩:=HQ.o.row (dB EJ.o)
   have ID:Hid (∀U,Ext W9 U->Calls prog 64 #[.slice (some ⟨E,0,none⟩) c.ar.length c.ar.length] U (kN U (eL (jG c S h) c.ar.length) 225)):=λU hU=>by
    have h1:=YW U _ 6 (HQR.ext hU) ⟨by show ql.length<=_;rw [NW];have:=EJ.o;omega,ai,ai⟩;simp only [NW]at h1;rw [pZ LJ]at h1;refine h1.mono λe w' ⟨r,e1,e2,e3⟩=>⟨r,e1,e2.mono (dB EJ.o),e3⟩
   clear HQR LJ NW;have s:=Ext.refl W9;go_upto_region 13 with fail
   go_cut [14,15] (λv z wx=> ∃B1 r t,v= .pointer (some ⟨B1,0,none⟩)/\z= .bool t/\(t=true↔ ¬eL (jG c S h) c.ar.length=0)/\Ext W9 wx/\Hid (W9.heap.size<=B1)/\aY wx B1 63 r.cells/\fE wx r ((p.bC.q h*eL (λi=>uw S i h) S.ay.length)/eL (jG c S h) c.ar.length) 313)
   case first=>
    as_aux_lemma=>
     refine wG (λw=>Ext W9 w) (s.drew) λs=> ?_;generalize W9.drew=Y at*;refine wV 0 s ?_;refine wV 2 s ?_;refine wV 5 s ?_;refine wV 7 s ?_;refine wV 1 s ?_;refine wV 3 s ?_;refine wV 4 s ?_;refine Mz 6 13 (λK' hK=> ?_) (λK' hK=> ?_)
     .rw [if_pos bQ]
      go_simp;refine (rJ _ _ _ _ _ 4 81 (He.o.ext s) (Hs.o.ext s)).mono ?_;rintro e w6 ⟨r1,rfl,hn,bJ,x⟩;have cD:=af hn;refine hK.o _ _ (s.trans x) λs=> ?_;clear hK K' x hn bJ;refine Mz 8 13 (λK' hK=> ?_) (λK' hK=> ?_)
      .rw [if_pos bQ]
       go_simp;refine (ID.o _ s).mono ?_;rintro e w8 ⟨r2,rfl,hn,bJ,x⟩;have dL:=af hn;replace cD:=af (cD.o.ext x);refine hK.o _ _ (s.trans x) λs=> ?_;clear hK K' x hn bJ;refine Mz 9 13 (λK' hK=> ?_) (λK' hK=> ?_)
       .rw [if_pos bQ]
        go_simp;refine (Lb _ _ _ _ _ 86 225 cD.o dL.o).mono ?_;rintro e w9 ⟨r3,t,rfl,ht,hn,x⟩;have Lf:=af ht;clear ht
        have iH:=af hn;replace cD:=af (cD.o.ext x);replace dL:=af (dL.o.ext x);refine hK.o _ _ (s.trans x) λs=> ?_;clear hK K' x hn;refine wV 10 s ?_;refine wV 11 s ?_;refine wV 12 s ?_;refine wR 13 λK' hK=> ?_;rw [if_pos bQ];go_simp;generalize jS:World.alloc _ _=Wa;obtain ⟨B,jT,x,A⟩:=aI jS;rw [<-jT];have fz:=af A;have ig:Hid (W9.heap.size<=B):=by have:=s.size;show _<=_;omega
        replace cD:=af (cD.o.ext x);replace dL:=af (dL.o.ext x);replace iH:=af (iH.o.ext x);refine hK.o _ _ (s.trans x) λs=> ?_;clear hK K' x A jS jT;refine wR 14 λK' hK=> ?_;rw [if_pos bQ];have KA:=(fz.o).cs;replace KA:=gO KA;have f3:=λi=>fz.o.frozen i;go_simp;have iB:=af (dE fz.o rfl iH.o);refine hK.o _ _ ((cF _ B r3).ext s ig.o) λs=> ?_;clear hK K' KA f3;refine wV 15 s ?_;refine wD ?_;go_wp2
        go_meet
        exact ⟨B,r3,t,rfl,rfl,Lf.o,s,ig.o,iB.o.1,iB.o.2⟩
       .rw [if_pos bQ]
        go_simp;generalize jS:World.alloc _ _=Wa;obtain ⟨B,jT,x,A⟩:=aI jS;rw [<-jT];have fz:=af A;have ig:Hid (W9.heap.size<=B):=by have:=s.size;show _<=_;omega
        replace cD:=af (cD.o.ext x);replace dL:=af (dL.o.ext x);refine hK.o _ _ (s.trans x) λs=> ?_;clear hK K' x A jS jT;refine wR 9 λK' hK=> ?_;rw [if_pos bQ];go_simp;refine (Lb _ _ _ _ _ 86 225 cD.o dL.o).mono ?_;rintro e w9 ⟨r3,t,rfl,ht,hn,x⟩;have Lf:=af ht;clear ht
        have iH:=af hn;replace cD:=af (cD.o.ext x);replace dL:=af (dL.o.ext x);replace fz:=af (fz.o.ext x);refine hK.o _ _ (s.trans x) λs=> ?_;clear hK K' x hn;refine wV 10 s ?_;refine wV 11 s ?_;refine wV 12 s ?_;refine wR 14 λK' hK=> ?_;rw [if_pos bQ];have KA:=(fz.o).cs;replace KA:=gO KA;have f3:=λi=>fz.o.frozen i;go_simp;have iB:=af (dE fz.o rfl iH.o);refine hK.o _ _ ((cF _ B r3).ext s ig.o) λs=> ?_;clear hK K' KA f3;refine wV 15 s ?_;refine wD ?_;go_wp2
        go_meet
        exact ⟨B,r3,t,rfl,rfl,Lf.o,s,ig.o,iB.o.1,iB.o.2⟩
      .rw [if_pos bQ]
       go_simp;generalize jS:World.alloc _ _=Wa;obtain ⟨B,jT,x,A⟩:=aI jS;rw [<-jT];have fz:=af A;have ig:Hid (W9.heap.size<=B):=by have:=s.size;show _<=_;omega
       replace cD:=af (cD.o.ext x);refine hK.o _ _ (s.trans x) λs=> ?_;clear hK K' x A jS jT;refine wR 8 λK' hK=> ?_;rw [if_pos bQ];go_simp;refine (ID.o _ s).mono ?_;rintro e w8 ⟨r2,rfl,hn,bJ,x⟩;have dL:=af hn;replace cD:=af (cD.o.ext x);replace fz:=af (fz.o.ext x);refine hK.o _ _ (s.trans x) λs=> ?_;clear hK K' x hn bJ;refine wR 9 λK' hK=> ?_;rw [if_pos bQ];go_simp;refine (Lb _ _ _ _ _ 86 225 cD.o dL.o).mono ?_;rintro e w9 ⟨r3,t,rfl,ht,hn,x⟩;have Lf:=af ht;clear ht
       have iH:=af hn;replace cD:=af (cD.o.ext x);replace dL:=af (dL.o.ext x);replace fz:=af (fz.o.ext x);refine hK.o _ _ (s.trans x) λs=> ?_;clear hK K' x hn;refine wV 10 s ?_;refine wV 11 s ?_;refine wV 12 s ?_;refine wR 14 λK' hK=> ?_;rw [if_pos bQ];have KA:=(fz.o).cs;replace KA:=gO KA;have f3:=λi=>fz.o.frozen i;go_simp;have iB:=af (dE fz.o rfl iH.o);refine hK.o _ _ ((cF _ B r3).ext s ig.o) λs=> ?_;clear hK K' KA f3;refine wV 15 s ?_;refine wD ?_;go_wp2
       go_meet
       exact ⟨B,r3,t,rfl,rfl,Lf.o,s,ig.o,iB.o.1,iB.o.2⟩
     .rw [if_pos bQ]
      go_simp;generalize jS:World.alloc _ _=Wa;obtain ⟨B,jT,x,A⟩:=aI jS;rw [<-jT];have fz:=af A;have ig:Hid (W9.heap.size<=B):=by have:=s.size;show _<=_;omega
      refine hK.o _ _ (s.trans x) λs=> ?_;clear hK K' x A jS jT;refine wR 6 λK' hK=> ?_;rw [if_pos bQ];go_simp;refine (rJ _ _ _ _ _ 4 81 (He.o.ext s) (Hs.o.ext s)).mono ?_;rintro e w6 ⟨r1,rfl,hn,bJ,x⟩;have cD:=af hn;replace fz:=af (fz.o.ext x);refine hK.o _ _ (s.trans x) λs=> ?_;clear hK K' x hn bJ;refine wR 8 λK' hK=> ?_;rw [if_pos bQ];go_simp;refine (ID.o _ s).mono ?_;rintro e w8 ⟨r2,rfl,hn,bJ,x⟩;have dL:=af hn;replace cD:=af (cD.o.ext x);replace fz:=af (fz.o.ext x);refine hK.o _ _ (s.trans x) λs=> ?_;clear hK K' x hn bJ;refine wR 9 λK' hK=> ?_;rw [if_pos bQ];go_simp;refine (Lb _ _ _ _ _ 86 225 cD.o dL.o).mono ?_;rintro e w9 ⟨r3,t,rfl,ht,hn,x⟩;have Lf:=af ht;clear ht
      have iH:=af hn;replace cD:=af (cD.o.ext x);replace dL:=af (dL.o.ext x);replace fz:=af (fz.o.ext x);refine hK.o _ _ (s.trans x) λs=> ?_;clear hK K' x hn;refine wV 10 s ?_;refine wV 11 s ?_;refine wV 12 s ?_;refine wR 14 λK' hK=> ?_;rw [if_pos bQ];have KA:=(fz.o).cs;replace KA:=gO KA;have f3:=λi=>fz.o.frozen i;go_simp;have iB:=af (dE fz.o rfl iH.o);refine hK.o _ _ ((cF _ B r3).ext s ig.o) λs=> ?_;clear hK K' KA f3;refine wV 15 s ?_;refine wD ?_;go_wp2
      go_meet
      exact ⟨B,r3,t,rfl,rfl,Lf.o,s,ig.o,iB.o.1,iB.o.2⟩
   case rest=>
    obtain ⟨B1,r1,t,rfl,rfl,ht,x5,NB,A5,hr1⟩:=hcut;generalize wc=w5 at*;have DN:=af A5;have tO:=af hr1;have HT:=af ht;have nB:=af x5
    clear A5 hr1 ht x5 KS Ke ID He Hs s;have s:=Ext.refl w5;go_upto_if 81 with fail
    go_cut [] (λwx=> ∃r,Ext W9 wx/\aY wx B1 63 r.cells/\fE wx r (qA c S p h) 313)
    case first=>
     as_aux_lemma=>
      cases t with
      |true=>
       go_wp2
       go_meet
       exact ⟨r1,nB.o,DN.o,by rw [qA,<-kX.o.ay];exact tO.o⟩
      |false=>
       have Ks:Hid (qA c S p h=((0:Int):Rat)):=by
        show _=_
        have h1:eL (jG c S h) c.ar.length=0:=by
            by_cases q:eL (jG c S h) c.ar.length=0
            .exact q
            .have:=HT.o.2 q;cases this
        rw [qA,h1,Rat.div_def,Rat.inv_zero,Rat.mul_zero];rfl
       go_wp2_with fail
       refine (CD w5 0 ai ai).mono ?_;rintro e w4 ⟨r0,rfl,rY,-,x4⟩;have MO:=af rY;have Hq:=DN.o.ext x4;have uu:=af x4;clear rY x4;go_wp2_with (refine cA rfl 63 _ _ rfl B1 r1.cells [.bool r0.s,.slice r0.a r0.k r0.c,.slice r0.b r0.j r0.d] Hq rfl rfl aw rfl rfl ?_;intro EH rH ji)
       go_meet
       exact ⟨r0,ji.ext (nB.o.trans uu.o) NB.o,rH,by rw [Ks.o];exact (MO.o.vu Hq ji).mono ai⟩
    case rest=>
     obtain ⟨r2,x8,A8,J6⟩:=hcut;generalize wc=w8 at*;have HRT:=af (And.intro A8 J6);replace HB:=af (HB.o.trans x8);replace dY:=af (dY.o.ext x8);replace gH:=af (gH.o.ext x8);replace iU:=af (iU.o.ext x8);replace HQ:=af (HQ.o.ext x8)
     clear x8 A8 J6 nB DN tO HT s;have s:=Ext.refl w8;go_upto_region 17 with(refine jr _ rfl _ _ 32 rfl 63 (.agg iV.toArray) 56 underlying32 Tryz.info_rat rfl _ _ c.ar.length rfl rfl bq bq (dB EJ.o) (dB EJ.o) ?_;intro W8 EK hx0 hz0)
     obtain ⟨E3,hE⟩: ∃E3,E3=w8.heap.size:=⟨_,rfl⟩;rw [<-hE]at EK⊢;have HI:Hid (rL w8 E3 c.ar.length (λj=>if j<0 then EL c S p h j else 0) 325 W8):=⟨hx0,ae,((QA.Ea EK.o).mono ae).congr λi _=>aX⟩;have Td:Hid (V.heap.size<=E3):=by have:=HB.o.size;show _<=_;omega
     clear EK hx0 hz0 hE s;have s:=Ext.refl W8
     go_upto_block 4 with fail
     go_cut [] (λwx=>rL w8 E3 c.ar.length (EL c S p h) 325 wx)
     case first=>
      as_aux_lemma=>
       go_wp2
       go_loopw [88] (λii wr=> ∃i:Nat,i<=c.ar.length/\ii= .int .i64 i/\rL w8 E3 c.ar.length (λj=>if j<i then EL c S p h j else 0) 325 wr) (λii _=>c.ar.length-(intOf ii).toNat)
       case atStart=>exact ⟨0,bm,rfl,HI.o⟩
       case round=>
        clear HI s;obtain ⟨i,hi,rfl,hI⟩:=hrel;have HI:=af hI;clear hI;by_cases hlt:i<c.ar.length
        .have b1:(i:Int)<(c.ar.length:Int):=Int.ofNat_lt.2 hlt
         have b0:(0:Int)<=(i:Int):=Int.natCast_nonneg i;obtain ⟨rv,Hv,KV⟩:=(HQ.o.ext HI.o.ext).get i hlt;have s:=Ext.refl wr;go_upto_region 20 with(refine aT rfl 63 _ _ rfl _ [.bool rv.s,.slice rv.a rv.k rv.c,.slice rv.b rv.j rv.d] rfl rfl aw rfl rfl ?_)
         generalize hW2:World.alloc wr _=W2;obtain ⟨D2,Cf,x2,A2⟩:=aI hW2;rw [<-Cf];try simp only [Act.put]
         have dK:=af (HI.o.next x2);have lT:=af dK.o.own.lt;have KB: ∀Y,Ext W2 Y->_:=λY e=>(A2.ext e).cs;replace KB:=gO KB;replace Hv:=af (Hv.o.ext x2);have KT: ∀Y,Ext W2 Y->_:=λY e=>((HRT.o.1.ext dK.o.ext).ext e).cs;replace KT:=gO KT;have Y7:=af (HRT.o.2.ext dK.o.ext);obtain ⟨a1,a2,a3,a4,a5,a6,re,He,Tv,Nz,Ke⟩:=ie (j:=0) (iU.o.ext dK.o.ext) (HP.o.b_.ext (HB.o.trans dK.o.ext)) rfl td.o.b_ h i HH.o b1;obtain ⟨rg,-,KG⟩:=dK.o.own.get i hlt;clear A2 x2 Cf hW2 s HI KV;refine zG 16 (λw=>Ext W2 w) ((Ext.refl W2).drew) λs=> ?_;generalize W2.drew=Y at*;refine zV 0 s ?_;refine zV 1 s ?_;refine zV 2 s ?_;refine zV 4 s ?_;refine zV 7 s ?_;refine zV 10 s ?_;refine zV 12 s ?_;refine zV 3 s ?_;refine zV 5 s ?_;refine zV 6 s ?_;refine zV 8 s ?_;refine zV 9 s ?_;have sz:=Nat.lt_of_lt_of_le lT.o s.size;refine zN 11 s (vq _ _ _ _ _ 4 313 (He.o.ext s) (Y7.o.ext s)) λr1 N7 cD bJ x s=> ?_;have RH:=af (iG bJ.o sz);clear x bJ sz;have sz:=Nat.lt_of_lt_of_le lT.o s.size;refine zN 13 s (rJ _ _ _ _ _ 318 6 cD.o (Hv.o.ext s)) λr2 Vy dL bJ x s=> ?_;have wJ:=af (iG bJ.o sz);clear x bJ sz;have sz:=Nat.lt_of_lt_of_le lT.o s.size;refine zN 14 s (Tq _ _ _ 325 dL.o) λr3 Qz iH bJ x s=> ?_;have adm:=af (iG bJ.o sz);clear x bJ sz;refine zV 15 s ?_;have kW:=af (dK.o.next s);have f3:=λi=>kW.o.own.frozen i;refine zL 16 λK' hK=> ?_;rw [if_pos bQ];go_simp;refine hK.o _ _ ?_;clear hK K' f3;have Kv:=(kW.o.own.put i hlt iH.o adm.o);have mJ:=af ((kW.o.but Kv.2 Kv.1).congr (g':=λj=>if j<i+1 then EL c S p h j else 0) λj _=>Lc (A:=EL c S p h) i j rfl);clear Kv;clear s;generalize World.setCell _ _ _=W9 at mJ⊢;go_wp2
         exact ⟨⟨i+1,hlt,bq,mJ.o⟩,bz⟩
        .obtain rfl:i=c.ar.length:=ae
         clear hlt hi;have s:=Ext.refl wr;go_wp2
         go_meet
         exact HI.o.congr λj hj=>if_pos hj
     case rest=>
      have dK:=af hcut;generalize wc=W9 at*;clear HI s hcut;have HI:=dK;clear dK;have s1:=HI.o.ext;go_wp2
      go_ret;exact ⟨E3,rfl,HI.o.own,Td.o,HB.o.trans HI.o.ext⟩
