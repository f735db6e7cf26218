/- Texts of the proof. -/
import Derived.Test.YtbnamicbjaaelaaGreatCg26
set_option linter.all false
set_option maxHeartbeats 1000000
set_option maxRecDepth 100000
namespace Go.Proofs.YtbnamicbjaaelaaGreat
open Go.Proofs.Tryz
open Go.RowKit
def eY (P:Nat->Prop) (a:Option Addr):Prop:= ∀p,a=some p->P p.block
theorem eY.none (P:Nat->Prop):eY P Option.none:=λ_ h=>by cases h
theorem eY.mono {P Q:Nat->Prop} {a:Option Addr} (h:eY P a) (hp: ∀b,P b->Q b):eY Q a:=λp e=>hp _ (h p e)
structure cP (P:Nat->Prop) (c:ay):Prop where
 aX:eY P c.ra
 aF:eY P c.ba
 fE: ∀b∈c.aF,eY P b.da
 lines:eY P c.la
 line: ∀l∈c.lines,eY P l.aa
 aA:eY P c.ua
 unit: ∀u∈c.aA,eY P u.sa/\eY P u.aa
 stores:eY P c.sa
 bh:eY P c.ta
 tie: ∀t∈c.bh,eY P t.ia/\eY P t.ea/\eY P t.pa
 outs:eY P c.oa
 o: ∀o∈c.outs,eY P o.la/\eY P o.ma
theorem cP.mono {P Q:Nat->Prop} {c:ay} (h:cP P c) (hp: ∀b,P b->Q b):cP Q c:=
 ⟨h.aX.mono hp,h.aF.mono hp,λb hb=>(h.fE b hb).mono hp,h.lines.mono hp,λl hl=>(h.line l hl).mono hp,h.aA.mono hp,λu hu=>⟨(h.unit u hu).1.mono hp,(h.unit u hu).2.mono hp⟩,h.stores.mono hp,h.bh.mono hp,
   λt ht=>⟨(h.tie t ht).1.mono hp,(h.tie t ht).2.1.mono hp,(h.tie t ht).2.2.mono hp⟩,h.outs.mono hp,λo ho=>⟨(h.o o ho).1.mono hp,(h.o o ho).2.mono hp⟩⟩
def jz (c:ay) (q:Addr):Prop:=c.ba=some q\/c.la=some q\/c.ua=some q\/c.sa=some q\/c.ta=some q\/c.oa=some q
theorem cP.outer {P:Nat->Prop} {c:ay} (h:cP P c): ∀q,jz c q->P q.block:=λq hq=>by
 rcases hq with e|e|e|e|e|e<;>first|exact h.aF q e|exact h.lines q e|exact h.aA q e|exact h.stores q e|exact h.bh q e|exact h.outs q e
def fX (c:ay) (b:Nat):Prop:= ∀q,jz c q->b≠q.block
theorem fX.join {x0 x':ay} {b:Nat} {ga:Option Addr} (h:fX x0 b) (ho: ∀q,jz x' q->jz x0 q\/ga=some q) (hb: ∀q,ga=some q->b≠q.block):fX x' b:=λq hq=>by
 rcases ho q hq with e|e
 .exact h q e
 .exact hb q e
structure ux (P:Nat->Prop) (c:ay):Prop where
 aX:eY P c.ra
 fE: ∀b∈c.aF,eY P b.da
 line: ∀l∈c.lines,eY P l.aa
 unit: ∀u∈c.aA,eY P u.sa/\eY P u.aa
 tie: ∀t∈c.bh,eY P t.ia/\eY P t.ea/\eY P t.pa
 o: ∀o∈c.outs,eY P o.la/\eY P o.ma
theorem ux.acs {P Q R:Nat->Prop} {c:ay} (h:ux P c) (g:cP Q c) (hp: ∀b,P b->Q b->R b):ux R c:=
 ⟨λp e=>hp _ (h.aX p e) (g.aX p e),λb hb p e=>hp _ (h.fE b hb p e) (g.fE b hb p e),λl hl p e=>hp _ (h.line l hl p e) (g.line l hl p e),
   λu hu=>⟨λp e=>hp _ ((h.unit u hu).1 p e) ((g.unit u hu).1 p e),λp e=>hp _ ((h.unit u hu).2 p e) ((g.unit u hu).2 p e)⟩,
   λt ht=>⟨λp e=>hp _ ((h.tie t ht).1 p e) ((g.tie t ht).1 p e),λp e=>hp _ ((h.tie t ht).2.1 p e) ((g.tie t ht).2.1 p e),λp e=>hp _ ((h.tie t ht).2.2 p e) ((g.tie t ht).2.2 p e)⟩,
   λo ho=>⟨λp e=>hp _ ((h.o o ho).1 p e) ((g.o o ho).1 p e),λp e=>hp _ ((h.o o ho).2 p e) ((g.o o ho).2 p e)⟩⟩
def jG (w:World) (a:Option Addr) (T:TypeId):Prop:= ∀q,a=some q-> ∃g cur,q=⟨g,0,none⟩/\aT w g T cur
theorem jG.none (w:World) (T:TypeId):jG w Option.none T:=λ_ h=>by cases h
theorem jG.of {w:World} {D m n gc:Nat} {e:TypeId} {ga:Option Addr} {rows:List (List Value)} (h:aL w D e m (.slice ga n gc) rows):jG w ga e:=λq hq=>by
 rcases h.own.2 with h0|⟨g,cap,cur,hv,hb,hc,hr⟩
 .have h1:=h0.1
  simp only [Value.slice.injEq]at h1;rw [h1.1]at hq;cases hq
 .simp only [Value.slice.injEq]at hv
  rw [hv.1]at hq;cases hq
  exact ⟨g,cur.toList,rfl,hc⟩
theorem jG.but {w w':World} {K:Nat} {a:Option Addr} {T:TypeId} (h:jG w a T) (x:aB K w w') (hb:eY (λb=>b≠K) a):jG w' a T:=λq hq=>by
 obtain ⟨g,cur,rfl,hA⟩:=h q hq;exact ⟨g,cur,rfl,hA.but x (hb _ hq)⟩
structure eE (w:World) (c:ay):Prop where
 ba:jG w c.ba 62
 la:jG w c.la 66
 ua:jG w c.ua 55
 sa:jG w c.sa 70
 ta:jG w c.ta 72
 oa:jG w c.oa 75
 off:ux (fX c) c
theorem eE.but {w w':World} {c:ay} {K:Nat} (h:eE w c) (x:aB K w w') (hb: ∀q,jz c q->q.block≠K):eE w' c:=
 ⟨h.ba.but x λq e=>hb q (.inl e),h.la.but x λq e=>hb q (.inr (.inl e)),h.ua.but x λq e=>hb q (.inr (.inr (.inl e))),h.sa.but x λq e=>hb q (.inr (.inr (.inr (.inl e)))),h.ta.but x λq e=>hb q (.inr (.inr (.inr (.inr (.inl e))))),h.oa.but x λq e=>hb q (.inr (.inr (.inr (.inr (.inr e))))),h.off⟩
theorem jG.ext {w w':World} {a:Option Addr} {T:TypeId} (h:jG w a T) (x:Ext w w'):jG w' a T:=λq hq=>by
 obtain ⟨g,cur,rfl,hA⟩:=h q hq;exact ⟨g,cur,rfl,hA.ext x⟩
theorem eE.ext {w w':World} {c:ay} (h:eE w c) (x:Ext w w'):eE w' c:=⟨h.ba.ext x,h.la.ext x,h.ua.ext x,h.sa.ext x,h.ta.ext x,h.oa.ext x,h.off⟩
theorem mY {x0 x':ay} {D:Nat} {ga:Option Addr} (off:ux (fX x0) x0) (old:cP (λb=>b<D) x0) (hga: ∀q,ga=some q->D<=q.block) (ho: ∀q,jz x' q->jz x0 q\/ga=some q):ux (fX x') x0:=
 off.acs old λb h1 h2=>h1.join ho λq e=>bA (hga q e)
theorem bm.but {w w':World} {c:ay} {K:Nat} (h:bm w c) (x:aB K w w') (hb:cP (λb=>b≠K) c):bm w' c:=
 ⟨h.hours,h.aX.eH x hb.aX,h.aF.but x hb.aF,λb hm=>⟨(h.fE b hm).1,(h.fE b hm).2.1.eH x (hb.fE b hm),(h.fE b hm).2.2⟩,h.lines.but x hb.lines,λl hl=>⟨(h.line l hl).1,(h.line l hl).2.1.eH x (hb.line l hl),(h.line l hl).2.2⟩,
   h.aA.but x hb.aA,λu hu=>⟨(h.unit u hu).1,(h.unit u hu).2.1.eH x (hb.unit u hu).2,(h.unit u hu).2.2.1.but x (hb.unit u hu).1,(h.unit u hu).2.2.2⟩,h.stores.but x hb.stores,h.store,h.bh.but x hb.bh,
   λt ht=>⟨(h.tie t ht).1,(h.tie t ht).2.1.eH x (hb.tie t ht).1,(h.tie t ht).2.2.1.eH x (hb.tie t ht).2.1,(h.tie t ht).2.2.2.1.eH x (hb.tie t ht).2.2,(h.tie t ht).2.2.2.2⟩,
   h.outs.but x hb.outs,λo ho=>⟨(h.o o ho).1,(h.o o ho).2.1.eH x (hb.o o ho).1,(h.o o ho).2.2.1.but x (hb.o o ho).2,(h.o o ho).2.2.2⟩⟩
def kG:ay:=⟨0,none,0,[],none,0,[],none,0,[],none,0,[],none,0,[],none,0,[],none,0,[]⟩
structure CW (V:World) (T R X:Nat) (a:Option Addr) (c:Nat) (l:List Int) (cs:List Value) (x:ay) (W:World):Prop where
 tape:bO W T a c l
 cg:aT W X 32 cs
 res:aT W R 32 kG.cells
 ext:Ext V W
 case':bm W x
 bl:cP (λb=>X<b/\b<W.heap.size) x
 pos:V.heap.size<=T/\V.heap.size<=R/\T≠R/\T<X/\R<X
 sep:eE W x
theorem CW.next {V W W':World} {T R X:Nat} {a:Option Addr} {c:Nat} {l:List Int} {cs:List Value} {x:ay} (h:CW V T R X a c l cs x W) (hT:bO W' T a c l) (hx:aB T W W'):CW V T R X a c l cs x W':=by
 have hp:=h.pos;have hs:=hx.size;exact ⟨hT,h.cg.but hx ae,h.res.but hx ae,hx.ext h.ext ae,h.case'.but hx (h.bl.mono λb hb=>ae),h.bl.mono λb hb=>ae,h.pos,h.sep.but hx λq hq=>bA (h.bl.outer q hq)⟩
theorem CW.grow {V W W':World} {T R X:Nat} {a:Option Addr} {c:Nat} {l:List Int} {cs:List Value} {x:ay} (h:CW V T R X a c l cs x W) (hx:Ext W W'):CW V T R X a c l cs x W':=h.next (h.tape.ext hx) (hx.but T)
theorem CW.but {V W W':World} {T R X K:Nat} {a:Option Addr} {c:Nat} {l:List Int} {cs:List Value} {x:ay} (h:CW V T R X a c l cs x W) (hx:aB K W W') (hK:X<K) (hb:cP (λb=>b≠K) x):CW V T R X a c l cs x W':=by
 have hp:=h.pos;have hs:=hx.size;exact ⟨h.tape.but hx ae,h.cg.but hx ae,h.res.but hx ae,hx.ext h.ext ae,h.case'.but hx hb,h.bl.mono λb hb=>ae,h.pos,h.sep.but hx hb.outer⟩
theorem CW.set {V W:World} {T R X:Nat} {a:Option Addr} {c:Nat} {l:List Int} {cs:List Value} {x x':ay} (h:CW V T R X a c l cs x W) (j:Nat) (v:Value) (hc:bm W x') (hb:cP (λb=>X<b/\b<W.heap.size) x') (hS:eE W x'):CW V T R X a c l (cs.set j v) x' (W.setCell ⟨X,j,none⟩ v):=by
 have hp:=h.pos;have hx:=((aB.refl X W).ez (o:=j) (v:=v));have hs:=hx.size;exact ⟨h.tape.but hx ae,h.cg.set j v,h.res.but hx ae,hx.ext h.ext ae,hc.but hx (hb.mono λb hb=>ae),hb.mono λb hb=>ae,h.pos,hS.but hx λq hq=>bA (hb.outer q hq)⟩
structure iQ (V:World) (T R X D:Nat) (a:Option Addr) (c:Nat) (l:List Int) (cs:List Value) (x0:ay) (e:TypeId) (m:Nat) (ga:Option Addr) (gc:Nat) (rows:List (List Value)) (si:List (Option Addr×Nat×List Int)) (sr:List (Option Addr×Nat×Nat×List (List Value))) (W:World):Prop where
 cw:CW V T R X a c l cs x0 W
 own:aL W D e m (.slice ga rows.length gc) rows
 si: ∀s∈si,aS W s.1 s.2.1 s.2.2/\ ∀p,s.1=some p->X<p.block/\p.block<W.heap.size/\(∀q,ga=some q->p.block≠q.block)/\fX x0 p.block
 sr: ∀s∈sr,ct W s.2.2.1 s.1 s.2.1 s.2.2.2/\ ∀p,s.1=some p->X<p.block/\p.block<W.heap.size/\(∀q,ga=some q->p.block≠q.block)/\fX x0 p.block
 old:cP (λb=>b<D) x0
 size:D<=W.heap.size
 lo:X<D
theorem iQ.next {V W W':World} {T R X D:Nat} {a:Option Addr} {c:Nat} {l:List Int} {cs:List Value} {x0:ay} {e:TypeId} {m:Nat} {ga:Option Addr} {gc:Nat} {rows:List (List Value)} {si:List (Option Addr×Nat×List Int)} {sr:List (Option Addr×Nat×Nat×List (List Value))}
 (h:iQ V T R X D a c l cs x0 e m ga gc rows si sr W) (hT:bO W' T a c l) (hx:aB T W W'):iQ V T R X D a c l cs x0 e m ga gc rows si sr W':=by
 have hp:=h.cw.pos;have hs:=hx.size;have E9:=h.lo;have hsz:=h.size
 refine ⟨h.cw.next hT hx,h.own.but hx ae,λs hm=> ?_,λs hm=> ?_,h.old,ae,h.lo⟩
 .obtain ⟨h1,h2⟩:=h.si s hm
  exact ⟨h1.eH hx (λp e=>bA (h2 p e)),λp e=>by have h3:=h2 p e;exact ⟨h3.1,ae,h3.2.2⟩⟩
 .obtain ⟨h1,h2⟩:=h.sr s hm
  exact ⟨h1.but hx (λp e=>bA (h2 p e)),λp e=>by have h3:=h2 p e;exact ⟨h3.1,ae,h3.2.2⟩⟩
theorem iQ.grow {V W W':World} {T R X D:Nat} {a:Option Addr} {c:Nat} {l:List Int} {cs:List Value} {x0:ay} {e:TypeId} {m:Nat} {ga:Option Addr} {gc:Nat} {rows:List (List Value)} {si:List (Option Addr×Nat×List Int)} {sr:List (Option Addr×Nat×Nat×List (List Value))}
 (h:iQ V T R X D a c l cs x0 e m ga gc rows si sr W) (hx:Ext W W'):iQ V T R X D a c l cs x0 e m ga gc rows si sr W':=h.next (h.cw.tape.ext hx) (hx.but T)
theorem iQ.kq {V W:World} {T R X D:Nat} {a:Option Addr} {c:Nat} {l:List Int} {cs:List Value} {x0:ay} {e:TypeId} {m:Nat} {ga:Option Addr} {gc:Nat} {rows:List (List Value)} {si:List (Option Addr×Nat×List Int)} {sr:List (Option Addr×Nat×Nat×List (List Value))}
 (h:iQ V T R X D a c l cs x0 e m ga gc rows si sr W): ∀q,ga=some q->D<=q.block/\q.block<W.heap.size:=λq hq=>by
 have h1:=h.own.own.lt q.block (by rw [hq];rfl);exact h1
theorem iQ.Gp {V W W':World} {T R X D:Nat} {a:Option Addr} {c:Nat} {l:List Int} {cs:List Value} {x0:ay} {e:TypeId} {m:Nat} {ga:Option Addr} {gc:Nat} {rows:List (List Value)} {si:List (Option Addr×Nat×List Int)} {sr:List (Option Addr×Nat×Nat×List (List Value))}
 (h:iQ V T R X D a c l cs x0 e m ga gc rows si sr W) {b:Option Addr} {k:Nat} {z:List Int} (hT:bO W' T a c l) (hx:aB T W W') (hi:aS W' b k z) (hf:Fr W.heap.size b) (hb: ∀p,b=some p->p.block<W'.heap.size):iQ V T R X D a c l cs x0 e m ga gc rows (si++ [(b,k,z)]) sr W':=by
 have h':=h.next hT hx;refine {h' with si:=λs hm=> ?_};rcases List.mem_append.1 hm with e1|e1
 .exact h'.si s e1
 .rw [List.mem_singleton]at e1;subst e1
  refine ⟨hi,λp hp=> ?_⟩;replace hp:b=some p:=hp;have h1:=hf p hp;have h2:=h.lo;have h3:=h.size
  exact ⟨ae,hb p hp,λq hq=>bA ((h.kq q hq).2),λq hq=>bA (h.cw.bl.outer q hq)⟩
theorem iQ.acu {V W W':World} {T R X D:Nat} {a:Option Addr} {c:Nat} {l:List Int} {cs:List Value} {x0:ay} {e:TypeId} {m:Nat} {ga:Option Addr} {gc:Nat} {rows:List (List Value)} {si:List (Option Addr×Nat×List Int)} {sr:List (Option Addr×Nat×Nat×List (List Value))}
 (h:iQ V T R X D a c l cs x0 e m ga gc rows si sr W) {b:Option Addr} {k n:Nat} {z:List (List Value)} (hT:bO W' T a c l) (hx:aB T W W') (hi:ct W' n b k z) (hf:Fr W.heap.size b) (hb: ∀p,b=some p->p.block<W'.heap.size):iQ V T R X D a c l cs x0 e m ga gc rows si (sr++ [(b,k,n,z)]) W':=by
 have h':=h.next hT hx;refine {h' with sr:=λs hm=> ?_};rcases List.mem_append.1 hm with e1|e1
 .exact h'.sr s e1
 .rw [List.mem_singleton]at e1;subst e1
  refine ⟨hi,λp hp=> ?_⟩;replace hp:b=some p:=hp;have h1:=hf p hp;have h2:=h.lo;have h3:=h.size
  exact ⟨ae,hb p hp,λq hq=>bA ((h.kq q hq).2),λq hq=>bA (h.cw.bl.outer q hq)⟩
theorem iQ.push {V W w5:World} {T R X D:Nat} {a:Option Addr} {c:Nat} {l:List Int} {cs:List Value} {x0:ay} {e:TypeId} {m:Nat} {ga:Option Addr} {gc:Nat} {rows:List (List Value)} {si:List (Option Addr×Nat×List Int)} {sr:List (Option Addr×Nat×Nat×List (List Value))}
 (h:iQ V T R X D a c l cs x0 e m ga gc rows si sr W) {r:List Value} {v1:Value} (j:Nat) (hr:r.length=m)
 (ho:w5.ownsRow D e m v1 (rows.length+1) (rows.flatten++r)) (he: ∀a0,Ext a0 W->a0.heap.size<=D->Ext a0 w5) (hb: ∀k,k<W.heap.size->some k≠Value.ownBlock (.slice ga rows.length gc)->w5.heap[k]?=W.heap[k]?) (hz:W.heap.size<=w5.heap.size)
 (hv:v1.ownBlock=Value.ownBlock (.slice ga rows.length gc)\/ ∃g,v1.ownBlock=some g/\W.heap.size<=g):
 ∃g2 k2,v1= .slice g2 (rows.length+1) k2/\iQ V T R X D a c l cs x0 e m g2 k2 (rows++ [r]) si sr w5/\iQ V T R X D a c l (cs.set j (.slice g2 (rows.length+1) k2)) x0 e m g2 k2 (rows++ [r]) si sr (w5.setCell ⟨X,j,none⟩ (.slice g2 (rows.length+1) k2)):=by
 obtain ⟨g2,k2,rfl⟩:=jn ho;have E9:=h.lo;have hsz:=h.size
 obtain ⟨K,Sj,Mh,hKx⟩:=jP (base:=D) (v:= .slice ga rows.length gc) hsz (λk q=>(h.own.own.lt k q).1) he hb hz
 have SF:K=W.heap.size\/ ∃q,ga=some q/\q.block=K:=by
  rcases Mh with q|q
  .exact .inl q
  .cases ga with
   |none=>cases q
   |some q'=>exact .inr ⟨q',rfl,by have e2:some q'.block=some K:=q;cases e2;rfl⟩
 have Ek: ∀p:Addr,X<p.block/\p.block<W.heap.size/\(∀q,ga=some q->p.block≠q.block)/\fX x0 p.block->p.block≠K:=λp hp=>by
  rcases SF with q|⟨q,q1,q2⟩
  .omega
  .have:=hp.2.2.1 q q1;omega
 have hg2: ∀q,g2=some q->(∃q0,ga=some q0/\q.block=q0.block)\/W.heap.size<=q.block:=λq hq=>by
  subst hq;rcases hv with e1|⟨g,e1,e2⟩
  .cases ga with
   |none=>cases e1
   |some q'=>exact .inl ⟨q',rfl,by have e3:some q.block=some q'.block:=e1;exact Option.some.inj e3⟩
  .have e3:some q.block=some g:=e1
   cases e3;exact .inr e2
 have hs5:=hKx.size
 have P5:iQ V T R X D a c l cs x0 e m g2 k2 (rows++ [r]) si sr w5:=by
  refine ⟨h.cw.but hKx ae (h.old.mono λb hb=>ae),?_,λs hm=> ?_,λs hm=> ?_,h.old,ae,h.lo⟩
  .have h5:=h.own.snoc (w':=w5) hr ho
   rw [List.length_append];exact h5
  .obtain ⟨h1,h2⟩:=h.si s hm
   refine ⟨h1.eH hKx (λp q=>Ek p (h2 p q)),λp q=> ?_⟩;have h3:=h2 p q;refine ⟨h3.1,ae,λq' hq'=> ?_,h3.2.2.2⟩;rcases hg2 q' hq' with⟨q0,h5,h6⟩|h5
   .have:=h3.2.2.1 q0 h5;omega
   .omega
  .obtain ⟨h1,h2⟩:=h.sr s hm
   refine ⟨h1.but hKx (λp q=>Ek p (h2 p q)),λp q=> ?_⟩;have h3:=h2 p q;refine ⟨h3.1,ae,λq' hq'=> ?_,h3.2.2.2⟩;rcases hg2 q' hq' with⟨q0,h5,h6⟩|h5
   .have:=h3.2.2.1 q0 h5;omega
   .omega
 refine ⟨g2,k2,rfl,P5,?_⟩;have hx:=((aB.refl X w5).ez (o:=j) (v:= .slice g2 (rows.length+1) k2));have hs6:=hx.size;refine ⟨P5.cw.set j _ P5.cw.case' P5.cw.bl P5.cw.sep,P5.own.but hx E9,λs hm=> ?_,λs hm=> ?_,h.old,bA P5.size,h.lo⟩
 .obtain ⟨h1,h2⟩:=P5.si s hm
  exact ⟨h1.eH hx (λp q=>bA (h2 p q)),λp q=>by have h3:=h2 p q;exact ⟨h3.1,ae,h3.2.2⟩⟩
 .obtain ⟨h1,h2⟩:=P5.sr s hm
  exact ⟨h1.but hx (λp q=>bA (h2 p q)),λp q=>by have h3:=h2 p q;exact ⟨h3.1,ae,h3.2.2⟩⟩
theorem O4 {W W':World} {D K m n gc:Nat} {e:TypeId} {ga:Option Addr} {rows:List (List Value)} (h:aL W D e m (.slice ga n gc) rows) (hx:aB K W W') (hg: ∀q,ga=some q->q.block≠K):aL W' D e m (.slice ga n gc) rows:=by
 refine ⟨⟨h.own.1,?_⟩,h.len⟩;rcases h.own.2 with h0|⟨g,cap,cur,hv,hb,hc,hr⟩
 .exact .inl h0
 .refine .inr ⟨g,cap,cur,hv,hb,?_,hr⟩
  have hne:g≠K:=by
   simp only [Value.slice.injEq]at hv;exact hg _ hv.1
  rw [hx.block g (Array.getElem?_eq_some_iff.1 hc).1 hne];exact hc
theorem iQ.but {V W W':World} {T R X D K:Nat} {a:Option Addr} {c:Nat} {l:List Int} {cs:List Value} {x0:ay} {e:TypeId} {m:Nat} {ga:Option Addr} {gc:Nat} {rows:List (List Value)} {si:List (Option Addr×Nat×List Int)} {sr:List (Option Addr×Nat×Nat×List (List Value))}
 (h:iQ V T R X D a c l cs x0 e m ga gc rows si sr W) (hx:aB K W W') (hK:D<=K) (hg: ∀q,ga=some q->q.block≠K) (hi: ∀s∈si,∀p,s.1=some p->p.block≠K) (hr: ∀s∈sr,∀p,s.1=some p->p.block≠K):iQ V T R X D a c l cs x0 e m ga gc rows si sr W':=by
 have E9:=h.lo;have hsz:=h.size;have hs:=hx.size
 refine ⟨h.cw.but hx ae (h.old.mono λb hb=>ae),O4 h.own hx hg,λs hm=> ?_,λs hm=> ?_,h.old,ae,h.lo⟩
 .obtain ⟨h1,h2⟩:=h.si s hm
  exact ⟨h1.eH hx (hi s hm),λp q=>by have h3:=h2 p q;exact ⟨h3.1,ae,h3.2.2⟩⟩
 .obtain ⟨h1,h2⟩:=h.sr s hm
  exact ⟨h1.but hx (hr s hm),λp q=>by have h3:=h2 p q;exact ⟨h3.1,ae,h3.2.2⟩⟩
theorem iQ.far {V W:World} {T R X D:Nat} {a:Option Addr} {c:Nat} {l:List Int} {cs:List Value} {x0:ay} {e:TypeId} {m:Nat} {ga:Option Addr} {gc:Nat} {rows:List (List Value)} {si:List (Option Addr×Nat×List Int)} {sr:List (Option Addr×Nat×Nat×List (List Value))}
 (h:iQ V T R X D a c l cs x0 e m ga gc rows si sr W):(∀q,ga=some q->q.block≠W.heap.size)/\(∀s∈si,∀p,s.1=some p->p.block≠W.heap.size)/\(∀s∈sr,∀p,s.1=some p->p.block≠W.heap.size):=
 ⟨λq hq=>bA ((h.kq q hq).2),λs hm p hp=>bA (((h.si s hm).2 p hp).2.1),λs hm p hp=>bA (((h.sr s hm).2 p hp).2.1)⟩
theorem JH {V W:World} {T R X D:Nat} {a:Option Addr} {c:Nat} {l:List Int} {cs:List Value} {x0:ay} {ga:Option Addr} {gc:Nat} {xs:List bn}
 (h:iQ V T R X D a c l cs x0 66 12 ga gc (xs.map bn.cells) (xs.map λx=>(x.aa,x.ac,x.away)) [] W) (hm: ∀x∈xs,x.name.size<=maxLen/\gO [x.dL,x.ld,x.rn,x.rd,x.uH,x.yt,x.vw,x.Bn,x.dO,x.kK]):
 CW V T R X a c l cs {x0 with la:=ga,lc:=gc,lines:=xs} W:=by
 obtain ⟨ra,rc,xO,yx,Ju⟩:=h.own.recs aq;simp only [Value.slice.injEq,true_and]at xO;obtain ⟨rfl,rfl⟩:=xO;have E9:=h.lo;have ho: ∀q,jz {x0 with la:=ga,lc:=gc,lines:=xs} q->jz x0 q\/ga=some q:=λq hq=>by rcases hq with e|e|e|e|e|e<;>first|exact .inl (.inl e)|exact .inr e|exact .inl (.inr (.inr (.inl e)))|exact .inl (.inr (.inr (.inr (.inl e))))|exact .inl (.inr (.inr (.inr (.inr (.inl e)))))|exact .inl (.inr (.inr (.inr (.inr (.inr e)))))
 have hJ:=mY h.cw.sep.off h.old (λq e=>(h.kq q e).1) ho;refine {h.cw with case':={h.cw.case' with lines:=yx,line:=λb hb=> ?_},bl:={h.cw.bl with lines:=λp hp=> ?_,line:=λb hb p hp=> ?_},sep:={h.cw.sep with la:=jG.of h.own,off:={hJ with line:=λb hb p hp=> ?_}}}
 .exact ⟨(hm b hb).1,(h.si _ (List.mem_map.2 ⟨_,hb,rfl⟩)).1,(hm b hb).2⟩
 .have:=h.kq p hp
  show X<p.block/\p.block<W.heap.size;omega
 .have h2:=(h.si _ (List.mem_map.2 ⟨_,hb,rfl⟩)).2 p hp
  exact ⟨h2.1,h2.2.1⟩
 .have h2:=(h.si _ (List.mem_map.2 ⟨_,hb,rfl⟩)).2 p hp
  exact h2.2.2.2.join ho h2.2.2.1
theorem JI {V W:World} {T R X D:Nat} {a:Option Addr} {c:Nat} {l:List Int} {cs:List Value} {x0:ay} {ga:Option Addr} {gc:Nat} {xs:List aP}
 (h:iQ V T R X D a c l cs x0 55 22 ga gc (xs.map aP.cells) (xs.map λx=>(x.aa,x.ac,x.away)) (xs.map λx=>(x.sa,x.sc,2,x.aY.map dy.cells)) W) (hu: ∀w,bm w x0->ct w 22 ga gc (xs.map aP.cells)->(∀x∈xs,aS w x.aa x.ac x.away/\ct w 2 x.sa x.sc (x.aY.map dy.cells))->bm w {x0 with ua:=ga,uc:=gc,aA:=xs}):
 CW V T R X a c l cs {x0 with ua:=ga,uc:=gc,aA:=xs} W:=by
 obtain ⟨ra,rc,xO,yx,Ju⟩:=h.own.recs aq;simp only [Value.slice.injEq,true_and]at xO;obtain ⟨rfl,rfl⟩:=xO;have E9:=h.lo;have hs:=λb (hb:b∈xs)=>h.si _ (List.mem_map.2 ⟨b,hb,rfl⟩);have hr:=λb (hb:b∈xs)=>h.sr _ (List.mem_map.2 ⟨b,hb,rfl⟩);have ho: ∀q,jz {x0 with ua:=ga,uc:=gc,aA:=xs} q->jz x0 q\/ga=some q:=λq hq=>by rcases hq with e|e|e|e|e|e<;>first|exact .inl (.inl e)|exact .inl (.inr (.inl e))|exact .inr e|exact .inl (.inr (.inr (.inr (.inl e))))|exact .inl (.inr (.inr (.inr (.inr (.inl e)))))|exact .inl (.inr (.inr (.inr (.inr (.inr e)))))
 have hJ:=mY h.cw.sep.off h.old (λq e=>(h.kq q e).1) ho;refine {h.cw with case':=hu W h.cw.case' yx (λx hx=>⟨(hs x hx).1,(hr x hx).1⟩),bl:={h.cw.bl with aA:=λp hp=> ?_,unit:=λb hb=>⟨λp hp=> ?_,λp hp=> ?_⟩},sep:={h.cw.sep with ua:=jG.of h.own,off:={hJ with unit:=λb hb=>⟨λp hp=> ?_,λp hp=> ?_⟩}}}
 .have:=h.kq p hp
  show X<p.block/\p.block<W.heap.size;omega
 .have h2:=(hr b hb).2 p hp
  exact ⟨h2.1,h2.2.1⟩
 .have h2:=(hs b hb).2 p hp
  exact ⟨h2.1,h2.2.1⟩
 .have h2:=(hr b hb).2 p hp
  exact h2.2.2.2.join ho h2.2.2.1
 .have h2:=(hs b hb).2 p hp
  exact h2.2.2.2.join ho h2.2.2.1
def Gq (W:World) (n B BB i:Nat) (w:World):Prop:=
 ∃yz:List cH,yz.length=i/\i<=n/\aT w B 92 (gY yz++gz (n-i))/\(∀k (hk:k<yz.length),fQ w yz[k] 0 BB)/\Ext W w/\BB<=w.heap.size
theorem Xv (A:List Value) (m:Nat) (x y z:Value):(((A++gz (m+1)).set A.length x).set (A.length+1) y).set (A.length+2) z=(A++ [x,y,z])++gz m:=by
 have e:gz (m+1)= .bool false:: .slice none 0 0:: .slice none 0 0::gz m:=rfl;rw [e];generalize gz m=Z;rw [List.set_append_right _ _ ae,Nat.sub_self,List.set_cons_zero,List.set_append_right _ _ ae,Nat.add_sub_cancel_left,List.set_cons_succ,List.set_cons_zero,List.set_append_right _ _ ae,Nat.add_sub_cancel_left,List.set_cons_succ,List.set_cons_succ,List.set_cons_zero];simp
theorem Gr {w:World} {b m x:Nat} {T:TypeId} {A:List Value} (h:aT w b T (A++gz (m+1))) (hA:A.length=x*3):
 w.cell? ⟨b,x*3,none⟩=some (.bool false)/\w.cell? ⟨b,x*3+1,none⟩=some (.slice none 0 0)/\w.cell? ⟨b,x*3+2,none⟩=some (.slice none 0 0)/\w.frozen? ⟨b,x*3,none⟩=false/\w.frozen? ⟨b,x*3+1,none⟩=false/\w.frozen? ⟨b,x*3+2,none⟩=false:=by
 have e:gz (m+1)= .bool false:: .slice none 0 0:: .slice none 0 0::gz m:=rfl;rw [e]at h;refine ⟨?_,?_,?_,h.frozen _,h.frozen _,h.frozen _⟩
 .rw [h.cell,List.getElem?_append_right ae,hA,Nat.sub_self];rfl
 .rw [h.cell,List.getElem?_append_right ae,hA,Nat.add_sub_cancel_left];rfl
 .rw [h.cell,List.getElem?_append_right ae,hA,Nat.add_sub_cancel_left];rfl
theorem JJ (V:World) (n:Nat) (hn:n<=128):
 Calls prog 161 #[i64 (n:Int)] V λe w'=> ∃yz:List cH,yz.length=n/\e= .returned (.slice (some ⟨V.heap.size,0,none⟩) n n)/\aT w' V.heap.size 92 (gY yz)/\(∀k (hk:k<yz.length),fQ w' yz[k] 0 (V.heap.size+1))/\Ext V w':=by
 have SG:=IM n hn;have HN:=ah hn;have HZ:Hid (∀U,Calls prog 97 #[] U (bG 0 U)):=ah vS;clear hn;go_enter func161,ntmps161
 go_upto_block 0 with fail
 obtain ⟨W0,hW,x0,Z0,A0⟩:=aV V 92 (gz n);rw [show V.alloc (.cells (gz n).toArray 92)=W0 from hW.symm];obtain ⟨B,hB⟩: ∃B,B=V.heap.size:=⟨_,rfl⟩;rw [<-hB]at A0⊢;have hsz:W0.heap.size=B+1:=by rw [hW,hB];simp
 have HS:Hid (Gq V n B (B+1) 0 W0):=⟨[],rfl,aZ,by simpa [gY]using A0,λk hk=>absurd hk (Nat.not_lt_zero _),x0,ae⟩;have HVB:Hid (V.heap.size<=B):=by show _<=_;omega
 have QJ:=ah hB;clear hW x0 Z0 A0 hB hsz SG;go_wp2
 go_loopw [4] (λii wr=> ∃i:Nat,i<=n/\Gq V n B (B+1) i wr/\ii= .int .i64 (i:Int)) (λii _=>n-(intOf ii).toNat)
 case atStart=>exact ⟨0,aZ,HS.o,rfl⟩
 case round=>
  obtain ⟨i,hi,hz,rfl⟩:=hrel;clear HS;obtain ⟨yz,hpl,-,hA,mA,hx,hBB⟩:=hz;by_cases hlt:i<n
  .have b1:(i:Int)<(n:Int):=ae
   have b0:(0:Int)<=(i:Int):=ae;obtain ⟨m,hm⟩: ∃m,n-i=m+1:=⟨n-i-1,ae⟩;have QF:n-(i+1)=m:=ae;rw [hm]at hA;have hpc:(gY yz).length=i*3:=by rw [vp,hpl]
   have q5:IntKind.i64.wrap ((i:Int)+1)=((i+1:Nat):Int):=by rw [IntKind.wrap_i64];have:=HN.o;omega
   have q6:wrap64 ((i:Int)+1)=((i+1:Nat):Int):=by unfold wrap64;have:=HN.o;omega
   have v_:=ah hpl;have HPC:=ah hpc;have HM':=ah QF;have HA:=ah hA;have HC:=ah mA;have HX:=ah hx;have qB:=ah hBB;have AH:=ah hlt
   clear hpl hpc hm QF hA mA hx hBB hi;go_wp2_with fail
   refine (HZ.o _).mono ?_;intro e w9 hN;obtain ⟨r,rfl,hr,x9⟩:=hN.UA;clear hN;obtain ⟨p0,p1,p2,p3,p4,p5⟩:=Gr (HA.o.ext x9) HPC.o;have HR:=ah hr;have Kj:=ah x9
   clear hr x9;go_wp2_with fail
   have sz9:=Kj.o.size;have szx:=HX.o.size;have sbb:=qB.o;have svb:=HVB.o
   have C2:aT (((w9.setCell ⟨B,i*3,none⟩ (.bool r.s)).setCell ⟨B,i*3+1,none⟩ (.slice r.a r.k r.c)).setCell ⟨B,i*3+2,none⟩ (.slice r.b r.j r.d)) B 92 (gY (yz++ [r])++gz m):=by
    have h5:=(((HA.o.ext Kj.o).set (i*3) (.bool r.s)).set (i*3+1) (.slice r.a r.k r.c)).set (i*3+2) (.slice r.b r.j r.d);have h6:=Xv (gY yz) m (.bool r.s) (.slice r.a r.k r.c) (.slice r.b r.j r.d);rw [HPC.o]at h6;rw [h6]at h5;rw [y_];exact h5
   have C6:=λk hk=>((((HC.o k hk).ext Kj.o).setCell ⟨B,i*3,none⟩ (.bool r.s) (by simp only;omega)).setCell ⟨B,i*3+1,none⟩ (.slice r.a r.k r.c) (by simp only;omega)).setCell ⟨B,i*3+2,none⟩ (.slice r.b r.j r.d) (by simp only;omega);have C6':=(((HR.o.mono sbb).setCell ⟨B,i*3,none⟩ (.bool r.s) (by simp only;omega)).setCell ⟨B,i*3+1,none⟩ (.slice r.a r.k r.c) (by simp only;omega)).setCell ⟨B,i*3+2,none⟩ (.slice r.b r.j r.d) (by simp only;omega);have C7:=((((HX.o.trans Kj.o).setCell (p:=⟨B,i*3,none⟩) svb (.bool r.s)).setCell (p:=⟨B,i*3+1,none⟩) svb (.slice r.a r.k r.c)).setCell (p:=⟨B,i*3+2,none⟩) svb (.slice r.b r.j r.d));have C8:B+1<=(((w9.setCell ⟨B,i*3,none⟩ (.bool r.s)).setCell ⟨B,i*3+1,none⟩ (.slice r.a r.k r.c)).setCell ⟨B,i*3+2,none⟩ (.slice r.b r.j r.d)).heap.size:=by simp [World.setCell];omega
   have HD:Hid (Gq V n B (B+1) (i+1) (((w9.setCell ⟨B,i*3,none⟩ (.bool r.s)).setCell ⟨B,i*3+1,none⟩ (.slice r.a r.k r.c)).setCell ⟨B,i*3+2,none⟩ (.slice r.b r.j r.d))):=by
    refine ⟨yz++ [r],by simp [v_.o],bA AH.o,by rw [HM'.o];exact C2,?_,C7,C8⟩;intro k hk;by_cases Yk:k<yz.length
    .rw [List.getElem_append_left Yk];exact C6 k Yk
    .have Qy:k=yz.length:=by simp at hk;omega
     subst Qy;rw [List.getElem_append_right bY];simp only [Nat.sub_self,List.getElem_cons_zero];exact C6'
   exact ⟨⟨i+1,ae,HD.o,by first|rfl|exact congrArg (Value.int IntKind.i64) q6⟩,by first|(show n-(((i+1:Nat):Int)).toNat<n-((i:Int)).toNat;omega)|exact Nat.lt_of_le_of_lt (Nat.le_of_eq (congrArg (λz=>n-Int.toNat z) q6)) (by show n-(((i+1:Nat):Int)).toNat<n-((i:Int)).toNat;omega)⟩
  .obtain rfl:i=n:=ae
   rw [Nat.sub_self]at hA;have HA:=ah hA;have HC:=ah mA;have HX:=ah hx;have v_:=ah hpl
   clear hA mA hx hBB hpl;go_wp2
   go_ret;rw [<-QJ.o];exact ⟨yz,v_.o,rfl,by simpa [gz]using HA.o,HC.o,HX.o⟩
