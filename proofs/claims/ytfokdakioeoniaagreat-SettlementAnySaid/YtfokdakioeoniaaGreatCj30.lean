/- Texts of the proof. -/
import Derived.Test.YtfokdakioeoniaaGreatCj29
set_option linter.all false
set_option maxHeartbeats 1000000
set_option maxRecDepth 100000
namespace Go.Proofs.YtfokdakioeoniaaGreat
open Go.Proofs.Tryz
open Go.RowKit
def pW (l:List Int):List (List Value):=l.map λz=> [i64 z]
theorem DO (l:List Int) (z:Int):pW (l++ [z])=pW l++ [[i64 z]]:=by simp [pW]
theorem jB (l:List Int):(pW l).length=l.length:=by simp [pW]
theorem di.but {w w':World} {m:Nat} {a:Option Addr} {c K:Nat} {rows:List (List Value)} (h:di w m a c rows) (x:aH K w w') (hb: ∀p,a=some p->p.block≠K):di w' m a c rows:=
 ⟨h.le,h.cap,λi hi=>by
   obtain ⟨b,o,ha,hc⟩:=h.cell i hi;exact ⟨b,o,ha,λj hj=>g_ (hc j hj) x (show b≠K from hb _ ha)⟩⟩
theorem bV.nil (w:World):bV w none 0 []:=⟨cG,ai,λi hi=>absurd hi (Nat.not_lt_zero _),λi hi=>absurd hi (Nat.not_lt_zero _)⟩
theorem CB {w:World} {base:Nat} {e:TypeId} {s:Nat} {v:Value} {n:Nat} {xs:List Value} (h:w.ownsRow base e s v n xs): ∃a cap,v= .slice a n cap:=by
 rcases h.2 with⟨rfl,rfl⟩|⟨g,cap,cur,rfl,_,_,_,hc,_⟩
 .exact ⟨none,0,rfl⟩
 .exact ⟨_,_,rfl⟩
theorem kt (R j:Nat):(⟨R,0,none⟩:Addr).add j=⟨R,j,none⟩:=by
 by_cases h:j=0
 .subst h;simp [Addr.add]
 .simp [Addr.add,h]
theorem Aj {w w':World} {base:Nat} {v:Value} (hle:base<=w.heap.size) (hown: ∀k,v.ownBlock=some k->base<=k) (he: ∀a0,Ext a0 w->a0.heap.size<=base->Ext a0 w') (hb: ∀k,k<w.heap.size->some k≠v.ownBlock->w'.heap[k]?=w.heap[k]?) (hz:w.heap.size<=w'.heap.size): ∃K,base<=K/\(K=w.heap.size\/v.ownBlock=some K)/\aH K w w':=by
 have h0:Ext {w with heap:= #[]} w:=⟨⟨rfl,rfl,rfl,bm,λk hk=>absurd hk (Nat.not_lt_zero _)⟩,cG⟩;have h1:=he _ h0 bm;cases q:v.ownBlock with
 |none=>exact ⟨w.heap.size,hle,.inl rfl,h1.below.os,h1.below.tape,h1.below.output,h1.drawn,hz,λk hk _=>hb k hk (by rw [q];simp)⟩
 |some g=>exact ⟨g,hown g q,.inr rfl,h1.below.os,h1.below.tape,h1.below.output,h1.drawn,hz,λk hk hne=>hb k hk (by rw [q];intro e;cases e;exact hne rfl)⟩
theorem ib {P:Program} {fn:Func} {tmps:Array Value} {w:World} {R:Nat} {ty:TypeId} {cs:List Value} (k:Nat) (d:TypeDesc) (hres:fn.results= #[.cell k ty]) (ht:tmps.getD k undef= .pointer (some ⟨R,0,none⟩)) (hA:aY w R ty cs)
 (hu:P.underlying ty=some d) (hd:(match d with| .struct _| .array _ _=>true|_=>false)=true) (hi:(P.info? ty).map (·.size)=some cs.length):(results fn tmps).run P w= .ok (.agg cs.toArray) w:=by
 have h:=jn (P:=P) w ⟨R,0,none⟩ ty cs d (λj v hj=>by rw [kt,hA.cell j];exact hj) hu hd hi;simp only [results,hres];simp only [Array.getD_eq_getD_getElem?]at ht;simp [ht,asAddr,h]
section
variable{P:Program} {ops:Array Oper} {Q:Exit->Act->World->Prop} {rest:List Oper} {o:Oper} {a:Act} {w:World}
theorem Je {K:Act->World->Prop} (s x:Operand) (t e:TypeId) (z:Value) (size bytes:Nat) (ho:o.op= .call {callee:= .builtin .append,args:= #[s,x],argTypes:= #[t,t]})
 (ht:P.underlying t=some (.slice e)) (kD:(P.info? e).map (λi=>(i.zero,i.size,i.bytes))=some (some z,size,bytes)) (hzs:z.cells.size=size) (hsz:0<size) (hby:bytes<=100)
 {D:Nat} {ga:Option Addr} {gc:Nat} {rows:List (List Value)} (hs:a.eval s= .slice ga rows.length gc) (own:cj w D e size (.slice ga rows.length gc) rows)
 {B:Nat} {r:List Value} (hx:a.eval x= .slice (some ⟨B,0,none⟩) 1 1) (hB:aY w B e r) (hr:r.length=size) (h1: ∀u∈r,u.oneCell'=true) (h63:rows.length<=1100000000000) (hD:D<=w.heap.size)
 (h: ∀g2 k2 w' b,cj w' D e size (.slice g2 (rows.length+1) k2) (rows++ [r])->Hid (D<=b/\(b=w.heap.size\/ ∃q,ga=some q/\q.block=b)/\ ∀q,g2=some q->w.heap.size<=q.block\/ ∃p,ga=some p/\p.block=q.block)->aH b w w'->K (a.put o.dst (.slice g2 (rows.length+1) k2)) w'):Oper.wp P o a w K Q:=by
 refine j4 w s x t ho D e z size bytes ht kD hzs hsz _ rows.length rows.flatten hs own.own (some ⟨B,0,none⟩) 1 1 r hx ae (λ_=>⟨_,rfl,λj u hj=> ?_⟩) h1 (λe=>by cases e) ae hby hD ?_ ai
 .rw [kt,hB.cell];exact hj
 intro v1 w5 ho he hb hz hv;obtain ⟨g2,k2,rfl⟩:=CB ho.o;obtain ⟨b,hKb,hKe,hKx⟩:=Aj (base:=D) (v:= .slice ga rows.length gc) hD (λk q=>(own.own.lt k q).1) he.o hb.o hz.o;refine h g2 k2 w5 b (own.snoc hr ho.o) ⟨hKb,?_,λq hq=> ?_⟩ hKx
 .rcases hKe with q|q
  .exact .inl q
  .cases ga with
   |none=>cases q
   |some q'=>exact .inr ⟨q',rfl,by have e2:some q'.block=some b:=q;cases e2;rfl⟩
 .subst hq
  rcases hv.o with e1|⟨g,e1,e2⟩
  .cases ga with
   |none=>cases e1
   |some q'=>exact .inr ⟨q',rfl,by have e3:some q.block=some q'.block:=e1;exact (Option.some.inj e3).symm⟩
  .have e3:some q.block=some g:=e1
   cases e3;exact .inl e2
theorem Ak (s x:Operand) (t e:TypeId) (z:Value) (size bytes:Nat) (hgd:o.guard=none) (ho:o.op= .call {callee:= .builtin .append,args:= #[s,x],argTypes:= #[t,t]})
 (ht:P.underlying t=some (.slice e)) (kD:(P.info? e).map (λi=>(i.zero,i.size,i.bytes))=some (some z,size,bytes)) (hzs:z.cells.size=size) (hsz:0<size) (hby:bytes<=100)
 {D:Nat} {ga:Option Addr} {gc:Nat} {rows:List (List Value)} (hs:a.eval s= .slice ga rows.length gc) (own:cj w D e size (.slice ga rows.length gc) rows)
 {B:Nat} {r:List Value} (hx:a.eval x= .slice (some ⟨B,0,none⟩) 1 1) (hB:aY w B e r) (hr:r.length=size) (h1: ∀u∈r,u.oneCell'=true) (h63:rows.length<=1100000000000) (hD:D<=w.heap.size)
 (h: ∀g2 k2 w' b,cj w' D e size (.slice g2 (rows.length+1) k2) (rows++ [r])->Hid (D<=b/\(b=w.heap.size\/ ∃q,ga=some q/\q.block=b)/\ ∀q,g2=some q->w.heap.size<=q.block\/ ∃p,ga=some p/\p.block=q.block)->aH b w w'->wpList P ops Q rest (a.put o.dst (.slice g2 (rows.length+1) k2)) w'):wpList P ops Q (o::rest) a w:=
 wpList_plain hgd λK hK=>Je s x t e z size bytes ho ht kD hzs hsz hby hs own hx hB hr h1 h63 hD λg2 k2 w' b h2 h3 h4=>hK _ _ (h g2 k2 w' b h2 h3 h4)
end
theorem bV.ju {w:World} {a:Option Addr} {c:Nat} {l:List Int} (h:bV w a c l):lq l:=λz hz=>by
 obtain ⟨i,hi,rfl⟩:=List.mem_iff_getElem.1 hz;exact h.Zz i hi
theorem MC (w0 V:World) (c:aq) (h:Int) (hV:Ext w0 V) (hc:bK w0 c) (hn:c.lines.length<=1000000):
 Calls prog 179 #[.agg (C8 c),i64 h] V λe w'=> ∃a cap,e= .returned (.slice a (cK c h c.lines.length).length cap)/\bV w' a cap (cU (cK c h c.lines.length))/\Ext V w'/\Fr V.heap.size a:=by
 try unfold C8
 have hr:=hc.lines;have hle:=hr.le;have eI:=hr.cap
 rw [List.length_map]at hle;have HR:=af hr;have HV:=af hV;have HN:=af hn;have HLI:=af hc.line
 clear hc hr hV hn;go_enter func179,ntmps179
 go_upto_region 1 with fail
 obtain ⟨W,hW,x0,Z0,A0⟩:=bS V 30 c.cells;rw [show V.alloc (.cells (C8 c) 30)=W from hW.symm];clear hW;have HX:=af x0;obtain ⟨B,hB⟩: ∃B,B=V.heap.size:=⟨_,rfl⟩;rw [<-hB]at A0⊢;obtain ⟨-,-,-,k3,-⟩:=aq.at A0;have qI:=af hB;clear A0 x0 Z0 hB;go_wp2_with fail
 clear k3;go_loopw [5,11] (λv ii wr=> ∃i:Nat,i<=c.lines.length/\cj wr W.heap.size 3 1 v (iz (cK c h i))/\Ext W wr/\ii= .int .i64 i) (λ_ ii _=>c.lines.length-(intOf ii).toNat)
 case atStart=>exact ⟨0,bm,cj.nil _ _ _ _,ah,rfl⟩
 case round=>
  obtain ⟨i,hi,hown,hE,rfl⟩:=hrel;have HO:=af hown;clear hown;by_cases hlt:i<c.lines.length
  .obtain ⟨b,o,ha,c0,c1,c2,c3,c4,c5,c6,c7,c8,c9,c10,c11⟩:=((HR.o.ext HV.o).ext (HX.o.trans hE)).lines i hlt
   have Te:=(HLI.o c.lines[i] (List.getElem_mem hlt)).2.1;have HST:=af (xt c h i);rw [sk hlt]at HST;obtain ⟨x,Dl⟩: ∃x,x=c.lines[i]:=⟨_,rfl⟩;rw [<-Dl]at c0 c1 c2 c3 c4 c5 c6 c7 c8 c9 c10 c11 Te HST;have HLEN:=af (jf c h i);generalize cK c h i=l at*;have mn:(0:Int)<=(i:Int):=ae;have mq:(i:Int)<(c.lines.length:Int):=ae;have HE:=af hE;have Yz:=af ((Te.ext HV.o).ext (HX.o.trans hE));clear hE Te Dl;rw [ha];go_upto_region 5 with fail
   obtain ⟨W1,hW1,x1,Z1,A1⟩:=bS wr 213 x.cells;rw [show wr.alloc (.cells #[.string x.name,i64 x.fQ,i64 x.qZ,i64 x.rn,i64 x.rd,i64 x.Qp,i64 x.S4,i64 x.Qq,i64 x.S5,i64 x.tE,i64 x.FK,.slice x.aa x.away.length x.ac] 213)=W1 from hW1.symm];clear hW1 c0 c1 c2 c3 c4 c5 c6 c7 c8 c9 c10 c11;obtain ⟨E,tK⟩: ∃E,E=wr.heap.size:=⟨_,rfl⟩;rw [<-tK]at A1⊢;obtain ⟨-,-,-,-,-,-,-,-,-,-,-,c11⟩:=cX.at A1;have o0:=af (oq W1 _ _ _ h (Yz.o.ext x1));have kH:=af (HE.o.trans x1);have Rs:=kH.o.size;have jZ:=af x1;clear A1 Z1 x1 tK Yz HE;rcases Bool.eq_false_or_eq_true (hasB x.away h)with hq|hq
   .rw [hq]at o0 HST
    clear hq;go_wp2_with fail
    refine o0.o.mono ?_;rintro e w1 ⟨rfl,kR⟩;rw [kR];clear kR
    have Vn:=af (HO.o.ext jZ.o);go_wp2
    exact ⟨⟨i+1,ae,by rw [HST.o];simpa using Vn.o,kH.o,bq⟩,bz⟩
   .rw [hq]at o0 HST
    clear hq
    have HOW:Hid (wr.ownsRow W.heap.size 3 1 u5 l.length (iz l).flatten):=by
     have h5:=HO.o.own;rw [eV]at h5;exact h5
    have acK:=af (fg HOW.o jZ.o);go_wp2_with fail
    refine o0.o.mono ?_;rintro e w1 ⟨rfl,kR⟩;rw [kR];clear kR
    go_wp2_with (at_builtin;refine fC _ rfl (.tmp 21) (.tmp 23) 22 rfl W.heap.size 3 (.int .i64 0) 1 8 underlying22 Tryz.info_int rfl ai u5 l.length (iz l).flatten rfl ?c1 (some ⟨W1.heap.size,0,none⟩) 1 1 [i64 (i:Int)] rfl rfl ?c2 ?c3 ?c4 ?c5 ai ?c6 ?_;rotate_right;intro v1 w5 ho he hb hz hv)
    case c1=>exact fg acK.o (ah.alloc _)
    case c2=>exact λ_=>⟨_,rfl,kY W1 3 [i64 (i:Int)]⟩
    case c3=>intro u hu;rw [List.mem_singleton]at hu;subst hu;rfl
    case c4=>intro e;cases e
    case c5=>have:=HN.o;have:=HLEN.o;omega
    case c6=>have:=Rs;simp;omega
    have x5:Ext W w5:=he.o W (kH.o.alloc _) cG;have yO:=(HO.o.ext jZ.o).snoc (w':=w5) (v':=v1) (r:= [i64 (i:Int)]) rfl (by rw [eV];exact ho.o);rw [<-pT]at yO;exact ⟨⟨i+1,ae,by rw [HST.o];simpa using yO,x5,bq⟩,bz⟩
  .obtain rfl:i=c.lines.length:=ae
   obtain ⟨a,cap,rfl,hS,kV⟩:=HO.o.recs ai;rw [eV];rw [pU]at hS;have HI:=af (bV.Aa hS (rp (lu c h _) ae));have qm:=af kV;clear hS kV HO;go_wp2
   go_ret;exact ⟨a,cap,rfl,HI.o,HX.o.trans hE,qm.o.mono HX.o.size⟩
