/- Texts of the proof. -/
import Derived.KernelRfl
import Derived.WalkKit
import Derived.WalkSpells
import Derived.Sort.Grow
import Derived.Lib.Hide
import Derived.Laws.CopyOwn
import Derived.Laws.BitsAllLaws
import Derived.Deep.QuietTactic
import Derived.BigQuiet
import Derived.Test.YtfokdakioeoniaaGreatProg
import Derived.WalkLawsBesides
import Derived.Deep.RegionWith
import Derived.Deep.RegionHeld3
import Derived.Lib.Strings
import Derived.Lib.Slices
import Derived.Lib.Small
import Derived.Lib.Walk
import Derived.Lib.BitFns
import Derived.Deep.DeepCutAuto
import Derived.Deep.CutBlock
import Derived.IntWalk
import Derived.Deep.LoopGhost
import Derived.Shelf.SlSortCmp.NoneTotal
set_option linter.all false
namespace Go.Proofs.YtfokdakioeoniaaGreat
open Go.Proofs.Tryz
theorem _root_.Go.RowKit.Hid.o {p:Prop} (h:Go.RowKit.Hid p):p:=h
theorem af {p:Prop} (h:p):Go.RowKit.Hid p:=h
def val:List Nat->Nat
 | []=>0
 |x::xs=>x+4294967296*val xs
def Small (l:List Nat):Prop:= ∀x∈l,x<4294967296
theorem Small.tail {x:Nat} {l:List Nat} (h:Small (x::l)):Small l:=λy hy=>h y (List.mem_cons_of_mem _ hy)
theorem Small.take {l:List Nat} (h:Small l) (k:Nat):Small (l.take k):=λy hy=>h y (List.mem_of_mem_take hy)
theorem Small.drop {l:List Nat} (h:Small l) (k:Nat):Small (l.drop k):=λy hy=>h y (List.mem_of_mem_drop hy)
theorem Small.nil:Small []:=λ_ h=>by cases h
theorem Small.append {l m:List Nat} (h:Small l) (h':Small m):Small (l++m):=λy hy=>by
 rcases List.mem_append.1 hy with h1|h1
 .exact h y h1
 .exact h' y h1
theorem Small.one {x:Nat} (h:x<4294967296):Small [x]:=λy hy=>by
 simp at hy;omega
theorem Small.set {l:List Nat} (h:Small l) (k x:Nat) (hx:x<4294967296):Small (l.set k x):=λy hy=>by
 rcases List.mem_or_eq_of_mem_set hy with h1|h1
 .exact h y h1
 .omega
theorem Small.replicate (n:Nat):Small (List.replicate n 0):=λy hy=>by
 have:=List.eq_of_mem_replicate hy;omega
theorem cY (l m:List Nat):val (l++m)=val l+4294967296^l.length*val m:=by
 induction l with
 |nil=>simp [val]
 |cons x xs ih=>
  simp only [List.cons_append,val,ih,List.length_cons,Nat.pow_succ,Nat.mul_add,Nat.add_assoc];rw [<-Nat.mul_assoc,Nat.mul_comm 4294967296 (4294967296^xs.length)]
theorem kA {l:List Nat} (h:Small l):val l<4294967296^l.length:=by
 induction l with
 |nil=>simp [val]
 |cons x xs ih=>
  have h1:=ih h.tail;have h2:=h x (List.mem_cons_self ..);simp only [val,List.length_cons,Nat.pow_succ];generalize 4294967296^xs.length=p at*;omega
def limb (l:List Nat) (i:Nat):Nat:=l[i]?.getD 0
theorem lK (l:List Nat) (k:Nat) (h:k<=l.length):val l=val (l.take k)+4294967296^k*val (l.drop k):=by
 conv=>lhs;rw [<-List.take_append_drop k l]
 rw [cY,List.length_take,Nat.min_eq_left h]
theorem vF {l:List Nat} {k i:Nat} (h:i<k):limb (l.take k) i=limb l i:=by
 unfold limb;rw [List.getElem?_take,if_pos h]
def len (n:Nat):Nat:=if n=0 then 0 else n.log2/32+1
theorem pow_eq (k:Nat):(4294967296:Nat)^k=2^(32*k):=by
 rw [show(4294967296:Nat)=2^32 from by decide,<-Nat.pow_mul]
theorem cg {n k:Nat}:len n<=k↔n<4294967296^k:=by
 unfold len;rw [pow_eq];by_cases h:n=0
 .subst h;simp [Nat.two_pow_pos]
 .rw [if_neg h,<-Nat.log2_lt h];omega
theorem nc:len 0=0:=rfl
theorem js (n:Nat):n<4294967296^len n:=cg.1 (Nat.le_refl _)
theorem dt {m n:Nat} (h:m<=n):len m<=len n:=cg.2 (Nat.lt_of_le_of_lt h (js n))
theorem JT {n:Nat} (h:0<n) (h':n<4294967296):len n=1:=by
 have h1:= @cg n 1;have h2:= @cg n 0;simp at h1 h2;omega
theorem tP {l:List Nat} (h:Small l):len (val l)<=l.length:=cg.2 (kA h)
theorem ng {l:List Nat} (_h:Small l) {k:Nat} (hk:k<=l.length) (hn:len (val l)<=k):val (l.take k)=val l:=by
 have h1:=lK l k hk;have h2:=cg.1 hn
 have h3:val (l.drop k)=0:=by
  apply Nat.eq_zero_of_not_pos;intro h4;have:4294967296^k*1<=4294967296^k*val (l.drop k):=Nat.mul_le_mul_left _ h4;omega
 rw [h1,h3];simp
open Go.RowKit Go.Sort
structure Ext (w w':World):Prop where
 below:Below w.heap.size w w'
 drawn:w.drawn<=w'.drawn
theorem Ext.refl (w:World):Ext w w:=⟨Below.refl _ _,Nat.le_refl _⟩
theorem ae {p:Prop} (h:p:=by omega):p:=h
theorem ai {p:Prop} (h:p:=by decide):p:=h
theorem aw {p:Prop} (h:p:=by kernel_rfl):p:=h
theorem aX {p:Prop} (h:p:=by simp):p:=h
theorem bz {p:Prop} (h:p:=by simp only [intOf];omega):p:=h
theorem bq {p:Prop} (h:p:=by go_num):p:=h
theorem bQ {p:Prop} (h:p:=by rfl):p:=h
theorem dB {p q:Prop} (h:q) (k:q->p:=by intro h;omega):p:=k h
theorem ux {p q r:Prop} (h:q) (i:r) (k:q->r->p:=by intro h i;omega):p:=k h i
theorem aO3 {p q r s:Prop} (h:q) (i:r) (j:s) (k:q->r->s->p:=by intro h i j;omega):p:=k h i j
theorem nY {p:Prop} (h:p:=by rw [IntKind.wrap_i64];omega):p:=h
theorem ah {w:World}:Ext w w:=Ext.refl w
theorem bm {n:Nat}:0<=n:=Nat.zero_le n
theorem cG {n:Nat}:n<=n:=Nat.le_refl n
theorem Ext.size {w w':World} (h:Ext w w'):w.heap.size<=w'.heap.size:=h.below.size
theorem Ext.trans {a b c:World} (h:Ext a b) (k:Ext b c):Ext a c:=⟨h.below.trans (k.below.mono h.size),Nat.le_trans h.drawn k.drawn⟩
theorem Ext.alloc {a w:World} (h:Ext a w) (o:Obj):Ext a (w.alloc o):=⟨h.below.alloc h.size o,h.drawn⟩
theorem Ext.drew {a w:World} (h:Ext a w):Ext a w.drew:=⟨h.below.drew,Nat.le_succ_of_le h.drawn⟩
theorem Ext.drewN {a w:World} (h:Ext a w) (n:Nat):Ext a (w.drewN n):=⟨⟨h.below.os,h.below.tape,h.below.output,h.below.size,h.below.block⟩,Nat.le_trans h.drawn (Nat.le_add_right _ _)⟩
theorem Ext.setCell {a w:World} (h:Ext a w) {p:Addr} (hp:a.heap.size<=p.block) (u:Value):Ext a (w.setCell p u):=⟨h.below.setCell hp u,h.drawn⟩
theorem Ext.cell {w w':World} (h:Ext w w') {p:Addr} (hp:p.block<w.heap.size):w'.cell? p=w.cell? p:=h.below.cell hp
theorem Ext.frozen {w w':World} (h:Ext w w') {p:Addr} (hp:p.block<w.heap.size):w'.frozen? p=w.frozen? p:=h.below.frozen hp
theorem Ext.grow {w w':World} (h:Ext w w'): ∃q os,w'=Sort.grow (w.drewN q) os:=by
 obtain ⟨⟨h1,h2,h3,h4,h5⟩,h6⟩:=h;refine ⟨w'.drawn-w.drawn,w'.heap.extract w.heap.size w'.heap.size,?_⟩
 have hh:w'.heap=w.heap++w'.heap.extract w.heap.size w'.heap.size:=by
  apply Array.ext_getElem?;intro k;rw [Array.getElem?_append];by_cases hk:k<w.heap.size
  .rw [if_pos hk,h5 k hk]
  .rw [if_neg hk,Array.getElem?_extract]
   by_cases qJ:k<w'.heap.size
   .rw [if_pos ae];congr 1;omega
   .rw [if_neg ae];exact Array.getElem?_eq_none ae
 cases w' with
 |mk heap' tape' aaQ os' Zy=>
  cases w with
  |mk heap tape drawn os output=>
   simp only at h1 h2 h3 h4 h6 hh;subst h1 h2 h3;simp only [Sort.grow,World.drewN,World.mk.injEq,true_and,and_true];exact ⟨hh,ae⟩
def Quiet (w w':World):Prop:= ∃q,w'=w.drewN q
theorem Quiet.refl (w:World):Quiet w w:=⟨0,rfl⟩
theorem Quiet.trans {a b c:World} (h:Quiet a b) (k:Quiet b c):Quiet a c:=by
 obtain ⟨q,rfl⟩:=h;obtain ⟨r,rfl⟩:=k;exact ⟨q+r,by simp [World.drewN,Nat.add_assoc]⟩
theorem Quiet.drewN {a b:World} (h:Quiet a b) (q:Nat):Quiet a (b.drewN q):=h.trans ⟨q,rfl⟩
theorem Quiet.drew {a b:World} (h:Quiet a b):Quiet a b.drew:=h.trans ⟨1,rfl⟩
theorem Quiet.ext {a b:World} (h:Quiet a b):Ext a b:=by obtain ⟨q,rfl⟩:=h;exact ah.drewN q
theorem eH {w:World} {p:Addr} {v:Value} (h:w.cell? p=some v):p.block<w.heap.size:=by
 unfold World.cell? at h;by_cases hb:p.block<w.heap.size
 .exact hb
 .rw [Array.getElem?_eq_none ae]at h;simp at h
structure fN (w:World) (a:Option Addr) (c:Nat) (l:List Nat):Prop where
 le:l.length<=c
 cap:c<=9223372036854775807
 short:l.length<=1099511627776
 Ni:a=none->c=0
 small:Small l
 cell: ∀i,i<l.length-> ∃b o,a=some ⟨b,o,none⟩/\w.cell? ⟨b,o+i,none⟩=some (.int .u32 (limb l i:Nat))
def Raw (w:World) (a:Option Addr) (k c n:Nat):Prop:= ∃l,l.length=k/\val l=n/\fN w a c l
def aY (w:World) (b:Nat) (T:TypeId) (vs:List Value):Prop:=w.heap[b]?=some (.cells vs.toArray T (0,0))
theorem aY.lt {w:World} {b:Nat} {T:TypeId} {vs:List Value} (h:aY w b T vs):b<w.heap.size:=(Array.getElem?_eq_some_iff.1 h).1
theorem aY.cell {w:World} {b:Nat} {T:TypeId} {vs:List Value} (h:aY w b T vs) (i:Nat):w.cell? ⟨b,i,none⟩=vs[i]?:=by
 simp [World.cell?,show w.heap[b]?=_ from h]
theorem aY.cl {w:World} {b:Nat} {T:TypeId} {vs:List Value} (h:aY w b T vs) (i:Nat) (v:Value) (hv:vs[i]?=some v):w.cell? ⟨b,i,none⟩=some v:=(h.cell i).trans hv
theorem aY.frozen {w:World} {b:Nat} {T:TypeId} {vs:List Value} (h:aY w b T vs) (i:Nat):w.frozen? ⟨b,i,none⟩=false:=by
 simp [World.frozen?,show w.heap[b]?=_ from h]
theorem aY.ext {w w':World} {b:Nat} {T:TypeId} {vs:List Value} (h:aY w b T vs) (e:Ext w w'):aY w' b T vs:=by
 unfold aY;rw [e.below.block b h.lt];exact h
theorem aY.below {B:Nat} {w w':World} {b:Nat} {T:TypeId} {vs:List Value} (h:aY w b T vs) (e:Below B w w') (hb:b<B):aY w' b T vs:=by
 unfold aY;rw [e.block b hb];exact h
theorem aY.set {w:World} {b:Nat} {T:TypeId} {vs:List Value} (h:aY w b T vs) (i:Nat) (v:Value):aY (w.setCell ⟨b,i,none⟩ v) b T (vs.set i v):=by
 unfold aY World.setCell;simp [Array.getElem?_modify,show w.heap[b]?=_ from h]
theorem aY.other {w:World} {b:Nat} {T:TypeId} {vs:List Value} (h:aY w b T vs) (p:Addr) (v:Value) (hp:p.block≠b):aY (w.setCell p v) b T vs:=by
 unfold aY;rw [Below.heap_setCell _ _ _ _ ae];exact h
theorem aY.alloc (w:World) (T:TypeId) (vs:List Value):aY (w.alloc (.cells vs.toArray T)) w.heap.size T vs:=by
 unfold aY World.alloc;simp
theorem aB {W w1:World} (hx:Ext W w1) {p:Addr} {v:Value} (h:W.cell? p=some v):w1.cell? p=some v:=by rw [hx.cell (eH h)];exact h
theorem aC {W w1:World} {b:Nat} {T:TypeId} {v0 v1:Value} (h:aY W b T [v0,v1]) (hx:Ext W w1):
 w1.cell? ⟨b,0,none⟩=some v0/\w1.cell? ⟨b,1,none⟩=some v1/\w1.frozen? ⟨b,0,none⟩=false/\w1.frozen? ⟨b,1,none⟩=false:=
 ⟨(h.ext hx).cell 0,(h.ext hx).cell 1,(h.ext hx).frozen 0,(h.ext hx).frozen 1⟩
theorem aA {W w1:World} {b:Nat} {T:TypeId} {v0 v1 v2:Value} (h:aY W b T [v0,v1,v2]) (hx:Ext W w1):
 w1.cell? ⟨b,0,none⟩=some v0/\w1.cell? ⟨b,1,none⟩=some v1/\w1.cell? ⟨b,2,none⟩=some v2/\w1.frozen? ⟨b,0,none⟩=false/\w1.frozen? ⟨b,1,none⟩=false/\w1.frozen? ⟨b,2,none⟩=false:=
 ⟨(h.ext hx).cell 0,(h.ext hx).cell 1,(h.ext hx).cell 2,(h.ext hx).frozen 0,(h.ext hx).frozen 1,(h.ext hx).frozen 2⟩
theorem bb1 {W w:World} {b:Nat} {T:TypeId} {l:List Value} {p:Prop} (f:aY W b T l->Ext W w->p) (h:aY W b T l) (e:Ext W w):b<w.heap.size/\p:=
 ⟨(h.ext e).lt,f h e⟩
theorem bb2 {W w:World} {b b1:Nat} {T T1:TypeId} {l l1:List Value} {p p1:Prop} (f:aY W b T l->Ext W w->p) (f1:aY W b1 T1 l1->Ext W w->p1) (h:aY W b T l) (h1:aY W b1 T1 l1) (e:Ext W w):b<w.heap.size/\b1<w.heap.size/\p/\p1:=
 ⟨(h.ext e).lt,(h1.ext e).lt,f h e,f1 h1 e⟩
theorem bb3 {W w:World} {b b1 b2:Nat} {T T1 T2:TypeId} {l l1 l2:List Value} {p p1 p2:Prop} (f:aY W b T l->Ext W w->p) (f1:aY W b1 T1 l1->Ext W w->p1) (f2:aY W b2 T2 l2->Ext W w->p2) (h:aY W b T l) (h1:aY W b1 T1 l1) (h2:aY W b2 T2 l2) (e:Ext W w):b<w.heap.size/\b1<w.heap.size/\b2<w.heap.size/\p/\p1/\p2:=
 ⟨(h.ext e).lt,(h1.ext e).lt,(h2.ext e).lt,f h e,f1 h1 e,f2 h2 e⟩
def Fr (b:Nat) (a:Option Addr):Prop:= ∀x,a=some x->b<=x.block
theorem Fr.none (b:Nat):Fr b Option.none:=λ_ h=>by cases h
theorem Fr.some {b b' o:Nat} {s} (h:b<=b'):Fr b (Option.some ⟨b',o,s⟩):=λ_ e=>by cases e;exact h
theorem Fr.mono {b b':Nat} {a:Option Addr} (h:Fr b a) (hb:b'<=b):Fr b' a:=λx e=>Nat.le_trans hb (h x e)
theorem fN.ext {w w':World} {a:Option Addr} {c:Nat} {l:List Nat} (h:fN w a c l) (e:Ext w w'):fN w' a c l:=
 ⟨h.le,h.cap,h.short,h.Ni,h.small,λi hi=>by
   obtain ⟨b,o,ha,hc⟩:=h.cell i hi;exact ⟨b,o,ha,by rw [e.cell (eH hc)];exact hc⟩⟩
theorem fN.below {w w':World} {B:Nat} {a:Option Addr} {c:Nat} {l:List Nat} (h:fN w a c l) (e:Below B w w') (hb: ∀x,a=some x->x.block<B):fN w' a c l:=
 ⟨h.le,h.cap,h.short,h.Ni,h.small,λi hi=>by
   obtain ⟨b,o,ha,hc⟩:=h.cell i hi;exact ⟨b,o,ha,by rw [e.cell (p:=⟨b,o+i,none⟩) (show b<B from hb ⟨b,o,none⟩ ha)];exact hc⟩⟩
theorem fN.setCell {w:World} {a:Option Addr} {c:Nat} {l:List Nat} (h:fN w a c l) (p:Addr) (v:Value) (hp: ∀x,a=some x->x.block≠p.block):fN (w.setCell p v) a c l:=
 ⟨h.le,h.cap,h.short,h.Ni,h.small,λi hi=>by
   obtain ⟨b,o,ha,hc⟩:=h.cell i hi;refine ⟨b,o,ha,?_⟩;rw [World.cell?_setCell_other _ _ _ _ (by intro e;exact hp _ ha (by rw [e]))];exact hc⟩
theorem fN.take {w:World} {a:Option Addr} {c:Nat} {l:List Nat} (h:fN w a c l) (k:Nat) (hk:k<=l.length):fN w a c (l.take k):=
 ⟨by rw [List.length_take];have:=h.le;omega,h.cap,by rw [List.length_take];have:=h.short;omega,h.Ni,h.small.take k,λi hi=>by
   rw [List.length_take]at hi;obtain ⟨b,o,ha,hc⟩:=h.cell i ae;exact ⟨b,o,ha,by rw [vF ae];exact hc⟩⟩
theorem fN.nil (w:World):fN w none 0 []:=⟨bm,ae,bm,λ_=>rfl,Small.nil,λ_ h=>by cases h⟩
theorem fN.at {w:World} {a:Option Addr} {c:Nat} {l:List Nat} (h:fN w a c l) (h0:0<l.length): ∃b o,a=some ⟨b,o,none⟩:=by
 obtain ⟨b,o,ha,_⟩:=h.cell 0 h0;exact ⟨b,o,ha⟩
theorem fN.cellAt {w:World} {b o c:Nat} {l:List Nat} (h:fN w (some ⟨b,o,none⟩) c l) (i:Nat) (hi:i<l.length):w.cell? ⟨b,o+i,none⟩=some (.int .u32 (limb l i:Nat)):=by
 obtain ⟨b',o',e,hc⟩:=h.cell i hi;cases e;exact hc
theorem Raw.ext {w w':World} {a:Option Addr} {k c n:Nat} (h:Raw w a k c n) (e:Ext w w'):Raw w' a k c n:=by
 obtain ⟨l,h1,h2,h3⟩:=h;exact ⟨l,h1,h2,h3.ext e⟩
theorem Raw.setCell {w:World} {a:Option Addr} {k c n:Nat} (h:Raw w a k c n) (p:Addr) (v:Value) (hp: ∀x,a=some x->x.block≠p.block):Raw (w.setCell p v) a k c n:=by
 obtain ⟨l,h1,h2,h3⟩:=h;exact ⟨l,h1,h2,h3.setCell p v hp⟩
theorem Fr.ne {b b':Nat} {a:Option Addr} (h:Fr b a) (hb:b'<b): ∀x,a=Option.some x->x.block≠b':=λx e=>dB (h x e)
theorem Raw.nil (w:World):Raw w none 0 0 0:=⟨[],rfl,rfl,fN.nil _⟩
theorem Raw.cg {w:World} {a:Option Addr} {k c n:Nat} (h:Raw w a k c n):len n<=k:=by
 obtain ⟨l,h1,h2,h3⟩:=h;rw [<-h1,<-h2];exact tP h3.small
theorem Raw.le {w:World} {a:Option Addr} {k c n:Nat} (h:Raw w a k c n):k<=c/\k<=1099511627776/\c<=9223372036854775807:=by
 obtain ⟨l,h1,h2,h3⟩:=h;exact ⟨h1▸h3.le,h1▸h3.short,h3.cap⟩
theorem Raw.cut {w:World} {a:Option Addr} {k c n:Nat} (h:Raw w a k c n):Raw w a (len n) c n:=by
 obtain ⟨l,h1,h2,h3⟩:=h;have hl:=tP h3.small;rw [h2]at hl;exact ⟨l.take (len n),by rw [List.length_take];omega,by rw [ng h3.small hl (by rw [h2];exact cG),h2],h3.take _ hl⟩
theorem tv (z:Value) (n:Nat):madeCells #[z] n=(List.replicate n z).toArray:=by
 unfold madeCells;apply Array.ext
 .simp
 .intro i h1 h2;simp [Nat.mod_one]
theorem bU {P:Program} (w:World) {ops:Array Oper} {rest:List Oper} {o:Oper} {a:Act} {Q:Exit->Act->World->Prop}
 (hg:o.guard=none) (l c:Operand) (t:TypeId) (hop:o.op=Op.makeSlice t l c)
 (e:TypeId) (z:Value) (bytes:Nat) (h1:P.underlying t=some (.slice e)) (h2:(P.info? e).map (λi=>(i.zero,i.size,i.bytes))=some (some z,1,bytes)) (h3:z.cells= #[z])
 (L C:Int) (n:Nat) (hl:a.eval l= .int .i64 L) (hc:a.eval c= .int .i64 C) (hL:L=(n:Int)) (hC:C=(n:Int)) (b2:bytes*n<=281474976710656) (b3:n<=9223372036854775807)
 (hK: ∀w',Hid (aY w' w.heap.size e (List.replicate n z))->Ext w w'->Hid (w'.heap.size=w.heap.size+1)->wpList P ops Q rest (a.put o.dst (.slice (some ⟨w.heap.size,0,none⟩) n n)) w'):
 wpList P ops Q (o::rest) a w:=by
 refine wpList_plain hg λK hK'=> ?_;obtain ⟨i,h2,h4,h5,h6⟩:=info_parts h2;have hrun:=run_make (P:=P) w t e i z h1 h2 h4 .i64 .i64 n n ae (Int.le_refl _) (by rw [h6,<-Int.natCast_mul];omega) ae;subst hL;subst hC;unfold Oper.wp;simp only [Int.toNat_natCast,h5,Nat.mul_one,h3,tv]at hrun;simp [execOp,hop,hl,hc,hrun,Result.andThen];exact hK' _ _ (hK _ (aY.alloc _ _ _) (ah.alloc _) (show _=_ by simp))
theorem Ext.setRow {a w:World} (h:Ext a w) {g:Nat} (hg:a.heap.size<=g) (cs:Array Value):Ext a (w.setRow g cs):=⟨below_setRow h.below hg cs,h.drawn⟩
theorem xQ {P:Program} {w:World} {ops:Array Oper} {rest:List Oper} {o:Oper} {a:Act} {Q:Exit->Act->World->Prop} (hgd:o.guard=none) (d s:Operand) (dT sT:TypeId)
 (ho:o.op= .call {callee:= .builtin .copy,args:= #[d,s],argTypes:= #[dT,sT]}) (elem:TypeId) (hu:P.underlying dT=some (.slice elem)) (hsz:(P.info? elem).map (·.size)=some 1)
 (dp sp:Option Addr) (QD TM QE TN:Nat) (hd:a.eval d= .slice dp QD TM) (hs:a.eval s= .slice sp QE TN)
 (g off:Nat) (cur:List Value) (t:TypeId) (hg:aY w g t cur) (cs:List Value) (hn:cs.length=Nat.min QE QD)
 (aaR:0<cs.length->dp=some ⟨g,off,none⟩/\ ∃ad,sp=some ad/\ ∀j v,cs[j]?=some v->w.cell? (ad.add j)=some v)
 (NH:off+cs.length<=cur.length) (h1: ∀v∈cs,v.oneCell'=true)
 (h: ∀w',Hid (aY w' g t (splice cur off cs))->Hid (∀a0,Ext a0 w->a0.heap.size<=g->Ext a0 w')->Hid (w'.heap.size=w.heap.size)->wpList P ops Q rest (a.put o.dst (goInt cs.length)) w'):
 wpList P ops Q (o::rest) a w:=by
 by_cases h0:cs.length=0
 .obtain rfl:cs= []:=List.eq_nil_of_length_eq_zero h0
  refine wpList_copy_nothing hgd d s dT sT ho elem hu hsz dp sp QD TM QE TN hd hs (by simpa using hn.symm) ?_;exact h w (show aY _ _ _ _ by simpa [splice]using hg) (show∀a0,_ from λ_ h _=>h) rfl
 .obtain ⟨rfl,ad,rfl,aaS⟩:=aaR ae
  refine wpList_copy_own hgd d s dT sT ho elem hu hsz g off QD TM ad QE TN hd hs cur.toArray t hg cs hn aaS (by simpa using NH) h1 ?_;exact h _ (show aY _ _ _ _ by unfold aY;simpa [splice]using setRow_heap w g _ _ t _ hg) (show∀a0,_ from λ_ h hb=>h.setRow hb _) (show _=_ by simp [World.setRow])
def dC (l:List Nat):List Value:=l.map λn=>Value.int .u32 (n:Nat)
theorem jt (l:List Nat):(dC l).length=l.length:=by simp [dC]
theorem gz (l:List Nat) (i x:Nat):(dC l).set i (.int .u32 (x:Nat))=dC (l.set i x):=by simp [dC,List.map_set]
theorem dv (n:Nat):List.replicate n (Value.int .u32 0)=dC (List.replicate n 0):=by simp [dC]
theorem fu (l:List Nat) (i:Nat) (h:i<l.length):(dC l)[i]?=some (.int .u32 (limb l i:Nat)):=by simp [dC,limb,h]
theorem aY.limbs {w:World} {b:Nat} {T:TypeId} {l:List Nat} (h:aY w b T (dC l)) (hs:Small l) (hc:l.length<=1099511627776):fN w (some ⟨b,0,none⟩) l.length l:=
 ⟨cG,ae,hc,(λe=>by cases e),hs,λi hi=>⟨b,0,rfl,by rw [Nat.zero_add,h.cell,fu _ _ hi]⟩⟩
theorem Sw (x y:Nat) (hx:x<4294967296) (hy:y<4294967296):bits BinOp.or IntKind.u64 (x:Int) ((y:Int)*4294967296)=((x+4294967296*y:Nat):Int):=by
 have e:((y:Int)*4294967296)=((y*4294967296:Nat):Int):=ae;rw [e,u64_or_nat _ _ ae ae];have:=Nat.shiftLeft_add_eq_or_of_lt (i:=32) (b:=x) ae y;rw [Nat.shiftLeft_eq]at this;rw [Nat.or_comm,<-this];congr 1;omega
theorem EP (x y:Nat) (hx:x<4294967296) (hy:y<4294967296):bits BinOp.or IntKind.u64 ((x:Int)*4294967296) (y:Int)=((y+4294967296*x:Nat):Int):=by
 have e:((x:Int)*4294967296)=((x*4294967296:Nat):Int):=ae;rw [e,u64_or_nat _ _ ae ae];have:=Nat.shiftLeft_add_eq_or_of_lt (i:=32) (b:=y) ae x;rw [Nat.shiftLeft_eq]at this;rw [<-this];congr 1;omega
theorem or_zero (x:Nat) (hx:x<18446744073709551616):bits BinOp.or IntKind.u64 0 (x:Int)=(x:Int):=by
 have:=u64_or_nat 0 x ae hx;simpa using this
theorem BR {a:Option Addr} {k k' c:Nat} (h:k=k'):Ending.returned (.slice a k c)= .returned (.slice a k' c):=by rw [h]
theorem cL {k:IntKind} {a b:Int} (h:a=b):Ending.returned (.int k a)= .returned (.int k b):=by rw [h]
def jU (n:Nat) (w:World) (e:Ending) (w':World):Prop:= ∃a c,e= .returned (.slice a (len n) c)/\Raw w' a (len n) c n/\Fr w.heap.size a/\Ext w w'
def gp (n m:Nat):Int:=if n<m then-1 else if n=m then 0 else 1
theorem Ia (n m:Nat):(n<m/\gp n m= -1)\/(n=m/\gp n m=0)\/(m<n/\gp n m=1):=by
 unfold gp;by_cases h:n<m
 .simp [h]
 .by_cases h':n=m
  .simp [h']
  .simp [h,h'];omega
theorem uy (l:List Nat): ∀v∈dC l,v.oneCell'=true:=by
 intro v hv;simp only [dC,List.mem_map]at hv;obtain ⟨n,_,rfl⟩:=hv;rfl
theorem CT (l:List Nat) (j:Nat) (v:Value) (h:(dC l)[j]?=some v):j<l.length/\v= .int .u32 (limb l j:Nat):=by
 have hj:j<l.length:=by
  have:=(List.getElem?_eq_some_iff.1 h).1;rwa [jt]at this
 rw [fu _ _ hj]at h;exact ⟨hj,by cases h;rfl⟩
theorem fN.src {w:World} {a:Option Addr} {c:Nat} {l:List Nat} (h:fN w a c l) (h0:0<l.length): ∃ad,a=some ad/\ ∀j v,(dC l)[j]?=some v->w.cell? (ad.add j)=some v:=by
 obtain ⟨b,o,ha⟩:=h.at h0;refine ⟨_,ha,λj v hv=> ?_⟩;obtain ⟨hj,rfl⟩:=CT l j v hv;subst ha;have:=h.cellAt j hj;rw [show(Addr.add ⟨b,o,none⟩ j)=⟨b,o+j,none⟩from by unfold Addr.add;split<;>simp_all];exact this
structure Touch (lo hi:Nat) (w2 w3:World):Prop where
 os:w3.os=w2.os
 tape:w3.tape=w2.tape
 output:w3.output=w2.output
 drawn:w2.drawn<=w3.drawn
 size:w3.heap.size=w2.heap.size
 block: ∀k,k<lo\/hi<=k->w3.heap[k]?=w2.heap[k]?
theorem Touch.refl (lo hi:Nat) (w:World):Touch lo hi w w:=⟨rfl,rfl,rfl,cG,rfl,λ_ _=>rfl⟩
theorem Touch.setCell {lo hi:Nat} {a w:World} (h:Touch lo hi a w) {p:Addr} (h1:lo<=p.block) (h2:p.block<hi) (v:Value):Touch lo hi a (w.setCell p v):=
 ⟨h.os,h.tape,h.output,h.drawn,by rw [<-h.size];simp [World.setCell],λk hk=>by rw [Below.heap_setCell _ _ _ _ ae];exact h.block k hk⟩
theorem Touch.drew {lo hi:Nat} {a w:World} (h:Touch lo hi a w):Touch lo hi a w.drew:=⟨h.os,h.tape,h.output,Nat.le_succ_of_le h.drawn,h.size,h.block⟩
theorem Touch.drewN {lo hi:Nat} {a w:World} (h:Touch lo hi a w) (n:Nat):Touch lo hi a (w.drewN n):=⟨h.os,h.tape,h.output,Nat.le_trans h.drawn (Nat.le_add_right _ _),h.size,h.block⟩
theorem Ext.bH {w W w2 w3:World} (hW:Ext w W) (h:Ext W w2) (t:Touch w.heap.size W.heap.size w2 w3):Ext w w3:=by
 have h2:=hW.trans h;exact ⟨⟨t.os.trans h2.below.os,t.tape.trans h2.below.tape,t.output.trans h2.below.output,by rw [t.size];exact h2.below.size,λk hk=>(t.block k (Or.inl hk)).trans (h2.below.block k hk)⟩,Nat.le_trans h2.drawn t.drawn⟩
theorem y_ {lo hi:Nat} {w2 w3:World} (t:Touch lo hi w2 w3) {p:Addr} (hp:p.block<lo\/hi<=p.block):w3.cell? p=w2.cell? p:=by
 unfold World.cell?;rw [t.block _ hp]
theorem fN.bH {lo hi:Nat} {w2 w3:World} {a:Option Addr} {c:Nat} {l:List Nat} (h:fN w2 a c l) (t:Touch lo hi w2 w3) (ha: ∀x,a=some x->x.block<lo\/hi<=x.block):fN w3 a c l:=
 ⟨h.le,h.cap,h.short,h.Ni,h.small,λi hi=>by
   obtain ⟨b,o,ha',hc⟩:=h.cell i hi;exact ⟨b,o,ha',by rw [y_ t (p:=⟨b,o+i,none⟩) (ha ⟨b,o,none⟩ ha')];exact hc⟩⟩
theorem Raw.bH {lo hi:Nat} {w2 w3:World} {a:Option Addr} {k c n:Nat} (h:Raw w2 a k c n) (t:Touch lo hi w2 w3) (ha: ∀x,a=some x->x.block<lo\/hi<=x.block):Raw w3 a k c n:=by
 obtain ⟨l,h1,h2,h3⟩:=h;exact ⟨l,h1,h2,h3.bH t ha⟩
theorem Fr.o {lo hi:Nat} {a:Option Addr} (h:Fr hi a): ∀x,a=Option.some x->x.block<lo\/hi<=x.block:=λx e=>Or.inr (h x e)
theorem Touch.one {lo hi b:Nat} (w:World) (h1:lo<=b) (h2:b<hi) (i:Nat) (v:Value):Touch lo hi w (w.setCell ⟨b,i,none⟩ v):=
 (Touch.refl _ _ _).setCell h1 h2 _
theorem Touch.two {lo hi b:Nat} (w:World) (h1:lo<=b) (h2:b<hi) (v0 v1:Value):Touch lo hi w ((w.setCell ⟨b,0,none⟩ v0).setCell ⟨b,1,none⟩ v1):=
 ((Touch.refl _ _ _).setCell h1 h2 _).setCell h1 h2 _
theorem Touch.three {lo hi b:Nat} (w:World) (h1:lo<=b) (h2:b<hi) (v0 v1 v2:Value):Touch lo hi w (((w.setCell ⟨b,0,none⟩ v0).setCell ⟨b,1,none⟩ v1).setCell ⟨b,2,none⟩ v2):=
 (((Touch.refl _ _ _).setCell h1 h2 _).setCell h1 h2 _).setCell h1 h2 _
theorem Touch.trans {lo hi:Nat} {a b c:World} (h:Touch lo hi a b) (k:Touch lo hi b c):Touch lo hi a c:=
 ⟨k.os.trans h.os,k.tape.trans h.tape,k.output.trans h.output,Nat.le_trans h.drawn k.drawn,k.size.trans h.size,λi hi=>(k.block i hi).trans (h.block i hi)⟩
theorem bS (w:World) (T0:TypeId) (l0:List Value): ∃W:World,W=(w.alloc (.cells l0.toArray T0))/\Ext w W/\Hid (W.heap.size=w.heap.size+1)/\aY W (w.heap.size) T0 l0:=by
 exact ⟨_,rfl,ah.alloc _,(show _=_ by simp),aY.alloc _ _ _⟩
theorem dV (w:World) (T0:TypeId) (l0:List Value) (T1:TypeId) (l1:List Value): ∃W:World,W=((w.alloc (.cells l0.toArray T0)).alloc (.cells l1.toArray T1))/\Ext w W/\Hid (W.heap.size=w.heap.size+2)/\aY W (w.heap.size) T0 l0/\aY W (w.heap.size+1) T1 l1:=by
 obtain ⟨V,hV,x0,z0,a0⟩:=bS w T0 l0;refine ⟨_,rfl,?_⟩;rw [<-hV];have z1:=z0.o;have b:=aY.alloc V T1 l1;rw [z1]at b;exact ⟨x0.alloc _,(show _=_ by simp [z1]),a0.ext (ah.alloc _),b⟩
theorem et (w:World) (T0:TypeId) (l0:List Value) (T1:TypeId) (l1:List Value) (T2:TypeId) (l2:List Value): ∃W:World,W=(((w.alloc (.cells l0.toArray T0)).alloc (.cells l1.toArray T1)).alloc (.cells l2.toArray T2))/\Ext w W/\Hid (W.heap.size=w.heap.size+3)/\aY W (w.heap.size) T0 l0/\aY W (w.heap.size+1) T1 l1/\aY W (w.heap.size+2) T2 l2:=by
 obtain ⟨V,hV,x0,z0,a0,a1⟩:=dV w T0 l0 T1 l1;refine ⟨_,rfl,?_⟩;rw [<-hV];have z1:=z0.o;have b:=aY.alloc V T2 l2;rw [z1]at b;exact ⟨x0.alloc _,(show _=_ by simp [z1]),a0.ext (ah.alloc _),a1.ext (ah.alloc _),b⟩
theorem za (w:World) (T0:TypeId) (l0:List Value) (T1:TypeId) (l1:List Value) (T2:TypeId) (l2:List Value) (T3:TypeId) (l3:List Value): ∃W:World,W=((((w.alloc (.cells l0.toArray T0)).alloc (.cells l1.toArray T1)).alloc (.cells l2.toArray T2)).alloc (.cells l3.toArray T3))/\Ext w W/\Hid (W.heap.size=w.heap.size+4)/\aY W (w.heap.size) T0 l0/\aY W (w.heap.size+1) T1 l1/\aY W (w.heap.size+2) T2 l2/\aY W (w.heap.size+3) T3 l3:=by
 obtain ⟨V,hV,x0,z0,a0,a1,a2⟩:=et w T0 l0 T1 l1 T2 l2;refine ⟨_,rfl,?_⟩;rw [<-hV];have z1:=z0.o;have b:=aY.alloc V T3 l3;rw [z1]at b;exact ⟨x0.alloc _,(show _=_ by simp [z1]),a0.ext (ah.alloc _),a1.ext (ah.alloc _),a2.ext (ah.alloc _),b⟩
def bf (s:Bool) (n:Nat):Int:=if s then-(n:Int)else n
theorem bL (s:Bool) (n:Nat):(bf s n).natAbs=n:=by unfold bf;cases s<;>simp
def bP (z:Int) (w:World) (e:Ending) (w':World):Prop:= ∃a c,e= .returned (.agg #[.bool (decide (z<0)),.slice a (len z.natAbs) c])/\Raw w' a (len z.natAbs) c z.natAbs/\Fr w.heap.size a/\Ext w w'
theorem bP.bH {z:Int} {w W w2 w3:World} {e:Ending} (h:bP z W e w2) (hW:Ext w W) (t:Touch w.heap.size W.heap.size w2 w3):bP z w e w3:=by
 obtain ⟨a,c,he,hr,hf,hx⟩:=h;exact ⟨a,c,he,hr.bH t hf.o,hf.mono hW.size,hW.bH hx t⟩
def bD (q:Rat) (w:World) (e:Ending) (w':World):Prop:= ∃a c a' c',e= .returned (.agg #[.bool (decide (q.num<0)),.slice a (len q.num.natAbs) c,.slice a' (len q.den) c'])/\
 Raw w' a (len q.num.natAbs) c q.num.natAbs/\Fr w.heap.size a/\Raw w' a' (len q.den) c' q.den/\Fr w.heap.size a'/\Ext w w'
theorem bD.bH {q:Rat} {w W w2 w3:World} {e:Ending} (h:bD q W e w2) (hW:Ext w W) (t:Touch w.heap.size W.heap.size w2 w3):bD q w e w3:=by
 obtain ⟨a,c,a',c',he,hr,hf,oB,hf',hx⟩:=h;exact ⟨a,c,a',c',he,hr.bH t hf.o,hf.mono hW.size,oB.bH t hf'.o,hf'.mono hW.size,hW.bH hx t⟩
theorem ze:len 1=1:=JT ai ai
theorem iC (x:Int) (y:Nat) (h:0<y):(mkRat x y).num.natAbs=x.natAbs/Nat.gcd y x.natAbs:=by
 rw [Rat.num_mkRat,if_neg ae,Int.natAbs_ediv_of_dvd (Int.ofNat_dvd_left.2 (Nat.gcd_dvd_right _ _)),Int.natAbs_natCast]
theorem nh (x:Int) (y:Nat) (h:0<y):(mkRat x y).den=y/Nat.gcd y x.natAbs:=by
 rw [Rat.den_mkRat,if_neg ae]
theorem bD.base {q:Rat} {W w1 w2:World} {e:Ending} (h:bD q w1 e w2) (hx:Ext W w1):bD q W e w2:=by
 obtain ⟨a,c,a',c',he,hr,hf,oB,hf',xR⟩:=h;exact ⟨a,c,a',c',he,hr,hf.mono hx.size,oB,hf'.mono hx.size,hx.trans xR⟩
def dW (q:Rat):Nat:=max (len q.num.natAbs) (len q.den)
theorem iN (q:Rat):len q.num.natAbs<=dW q:=Nat.le_max_left _ _
theorem iw (q:Rat):len q.den<=dW q:=Nat.le_max_right _ _
theorem kn (x:Int) (y:Nat):dW (mkRat x y)<=max (max (len x.natAbs) (len y)) 1:=by
 unfold dW;by_cases h:0<y
 .rw [iC _ _ h,nh _ _ h]
  have h1:=dt (Nat.div_le_self x.natAbs (Nat.gcd y x.natAbs));have h2:=dt (Nat.div_le_self y (Nat.gcd y x.natAbs));omega
 .obtain rfl:y=0:=ae
  rw [Rat.mkRat_zero];show max (len 0) (len 1)<=_;rw [nc,ze];omega
structure bE where
 s:Bool
 a:Option Addr
 k:Nat
 c:Nat
 b:Option Addr
 j:Nat
 d:Nat
def bE.cells (r:bE):List Value:= [.bool r.s,.slice r.a r.k r.c,.slice r.b r.j r.d]
def fI (w:World) (r:bE) (q:Rat) (L:Nat):Prop:= ∃n m,Raw w r.a r.k r.c n/\Raw w r.b r.j r.d m/\q=mkRat (bf r.s n) m/\len n<=L/\len m<=L
theorem fI.ext {w w':World} {r:bE} {q:Rat} {L:Nat} (h:fI w r q L) (e:Ext w w'):fI w' r q L:=by
 obtain ⟨n,m,h1,h2,h3⟩:=h;exact ⟨n,m,h1.ext e,h2.ext e,h3⟩
theorem fI.mono {w:World} {r:bE} {q:Rat} {L L':Nat} (h:fI w r q L) (hl:L<=L'):fI w r q L':=by
 obtain ⟨n,m,h1,h2,h3,h4,h5⟩:=h;exact ⟨n,m,h1,h2,h3,ae,ae⟩
theorem fI.dW {w:World} {r:bE} {q:Rat} {L:Nat} (h:fI w r q L):dW q<=max L 1:=by
 obtain ⟨n,m,h1,h2,rfl,h4,h5⟩:=h;have:=kn (bf r.s n) m;rw [bL]at this;omega
structure dO (w:World) (r:bE) (q:Rat) (B:Nat):Prop where
 s:r.s=decide (q.num<0)
 k:r.k=len q.num.natAbs
 j:r.j=len q.den
 num:Raw w r.a r.k r.c q.num.natAbs
 den:Raw w r.b r.j r.d q.den
 fa:Fr B r.a
 fb:Fr B r.b
theorem dO.ext {w w':World} {r:bE} {q:Rat} {B:Nat} (h:dO w r q B) (e:Ext w w'):dO w' r q B:=⟨h.s,h.k,h.j,h.num.ext e,h.den.ext e,h.fa,h.fb⟩
theorem dO.mono {w:World} {r:bE} {q:Rat} {B B':Nat} (h:dO w r q B) (e:B'<=B):dO w r q B':=⟨h.s,h.k,h.j,h.num,h.den,h.fa.mono e,h.fb.mono e⟩
theorem dO.setCell {w:World} {r:bE} {q:Rat} {B:Nat} (h:dO w r q B) (p:Addr) (v:Value) (hp:p.block<B):dO (w.setCell p v) r q B:=
 ⟨h.s,h.k,h.j,h.num.setCell _ _ (h.fa.ne hp),h.den.setCell _ _ (h.fb.ne hp),h.fa,h.fb⟩
structure jV (w:World) (a:Option Addr) (c:Nat) (rs:List bE) (qs:List Rat) (L:Nat):Prop where
 len:qs.length=rs.length
 le:rs.length<=c
 cap:c<=9223372036854775807
 short:rs.length<=1099511627776
 cell: ∀i (h:i<rs.length),∃b o,a=some ⟨b,o,none⟩/\w.cell? ⟨b,o+i*3,none⟩=some (.bool rs[i].s)/\w.cell? ⟨b,o+i*3+1,none⟩=some (.slice rs[i].a rs[i].k rs[i].c)/\w.cell? ⟨b,o+i*3+2,none⟩=some (.slice rs[i].b rs[i].j rs[i].d)
 num: ∀i (h:i<rs.length),fI w rs[i] (qs[i]'(by omega)) L
theorem jV.ext {w w':World} {a:Option Addr} {c:Nat} {rs:List bE} {qs:List Rat} {L:Nat} (h:jV w a c rs qs L) (e:Ext w w'):jV w' a c rs qs L:=
 ⟨h.len,h.le,h.cap,h.short,λi hi=>by
   obtain ⟨b,o,ha,h0,h1,h2⟩:=h.cell i hi;exact ⟨b,o,ha,aB e h0,aB e h1,aB e h2⟩,λi hi=>(h.num i hi).ext e⟩
theorem jV.at {w:World} {a:Option Addr} {c:Nat} {rs:List bE} {qs:List Rat} {L:Nat} (h:jV w a c rs qs L) (h0:0<rs.length): ∃b o,a=some ⟨b,o,none⟩:=by
 obtain ⟨b,o,ha,_⟩:=h.cell 0 h0;exact ⟨b,o,ha⟩
theorem Tryz.info_int:(Tryz.prog.info? 3).map (λi=>(i.zero,i.size,i.bytes))=some (some (.int .i64 0),1,8):=aw
def ju (l:List Int):List Value:=l.map (Value.int .i64)
theorem kB (l:List Int) (i:Nat) (h:i<l.length):(ju l)[i]?=some (.int .i64 l[i]):=by simp [ju,h]
end Go.Proofs.YtfokdakioeoniaaGreat
namespace Go.Proofs
open Go.Shelf
def Tryz.sortL_ren:Go.Shelf.Ren:=⟨λ|6=>67|15=>145|14=>144|28=>237|29=>238|20=>229|21=>230|22=>231|23=>232|24=>233|25=>234|26=>235|27=>236|46=>278|47=>279|48=>280|49=>281|50=>282|57=>298|n=>n,λ|22=>22|24=>3|25=>127|3=>3|39=>194|0=>0|53=>93|55=>144|4=>4|46=>251|45=>250|50=>122|5=>5|9=>9|66=>290|70=>294|76=>305|77=>271|n=>n,λ|n=>n⟩
theorem Tryz.sortL:Go.Proofs.SlLaysF.n6 Tryz.prog Tryz.sortL_ren:={
 mixed:=by kernel_rfl,
 f6:=⟨Tryz.f67.name,by decide,Tryz.func67.trans (congrArg some (by kernel_rfl))⟩,
 f14:=⟨Tryz.f144.name,by decide,Tryz.func144.trans (congrArg some (by kernel_rfl))⟩,
 f15:=Tryz.func145.trans (congrArg some (by kernel_rfl)),
 f20:=⟨Tryz.f229.name,by decide,Tryz.func229.trans (congrArg some (by kernel_rfl))⟩,
 f21:=⟨Tryz.f230.name,by decide,Tryz.func230.trans (congrArg some (by kernel_rfl))⟩,
 f22:=⟨Tryz.f231.name,by decide,Tryz.func231.trans (congrArg some (by kernel_rfl))⟩,
 f23:=⟨Tryz.f232.name,by decide,Tryz.func232.trans (congrArg some (by kernel_rfl))⟩,
 f24:=⟨Tryz.f233.name,by decide,Tryz.func233.trans (congrArg some (by kernel_rfl))⟩,
 f25:=⟨Tryz.f234.name,by decide,Tryz.func234.trans (congrArg some (by kernel_rfl))⟩,
 f26:=⟨Tryz.f235.name,by decide,Tryz.func235.trans (congrArg some (by kernel_rfl))⟩,
 f27:=⟨Tryz.f236.name,by decide,Tryz.func236.trans (congrArg some (by kernel_rfl))⟩,
 f28:=Tryz.func237.trans (congrArg some (by kernel_rfl)),
 f29:=Tryz.func238.trans (congrArg some (by kernel_rfl)),
 f46:=⟨Tryz.f278.name,by decide,Tryz.func278.trans (congrArg some (by kernel_rfl))⟩,
 f47:=Tryz.func279.trans (congrArg some (by kernel_rfl)),
 f48:=Tryz.func280.trans (congrArg some (by kernel_rfl)),
 f49:=⟨Tryz.f281.name,by decide,Tryz.func281.trans (congrArg some (by kernel_rfl))⟩,
 f50:=⟨Tryz.f282.name,by decide,Tryz.func282.trans (congrArg some (by kernel_rfl))⟩,
 f57:=⟨Tryz.f298.name,by decide,Tryz.func298.trans (congrArg some (by kernel_rfl))⟩,
 t0:=Tryz.underlying0,
 a0:=Tryz.isAgg0,
 z0:=Tryz.sizeOf0,
 v0:=Tryz.zeroValue0,
 t3:=Tryz.underlying3,
 a3:=Tryz.isAgg3,
 z3:=Tryz.sizeOf3,
 v3:=Tryz.zeroValue3,
 t4:=Tryz.underlying4,
 a4:=Tryz.isAgg4,
 z4:=Tryz.sizeOf4,
 v4:=Tryz.zeroValue4,
 t5:=Tryz.underlying5,
 a5:=Tryz.isAgg5,
 z5:=Tryz.sizeOf5,
 v5:=Tryz.zeroValue5,
 t9:=Tryz.underlying9,
 a9:=Tryz.isAgg9,
 z9:=Tryz.sizeOf9,
 v9:=Tryz.zeroValue9,
 t22:=Tryz.underlying22,
 a22:=Tryz.isAgg22,
 z22:=Tryz.sizeOf22,
 v22:=Tryz.zeroValue22,
 a24:=Tryz.isAgg3,
 z24:=Tryz.sizeOf3,
 t25:=Tryz.underlying127,
 a25:=Tryz.isAgg127,
 z25:=Tryz.sizeOf127,
 v25:=Tryz.zeroValue127,
 t39:=Tryz.underlying194,
 a39:=Tryz.isAgg194,
 z39:=Tryz.sizeOf194,
 v39:=Tryz.zeroValue194,
 t45:=Tryz.underlying250,
 a45:=Tryz.isAgg250,
 z45:=Tryz.sizeOf250,
 v45:=Tryz.zeroValue250,
 t46:=Tryz.underlying251,
 a46:=Tryz.isAgg251,
 z46:=Tryz.sizeOf251,
 v46:=Tryz.zeroValue251,
 t50:=Tryz.underlying122,
 a50:=Tryz.isAgg122,
 z50:=Tryz.sizeOf122,
 v50:=Tryz.zeroValue122,
 t53:=Tryz.underlying93,
 a53:=Tryz.isAgg93,
 z53:=Tryz.sizeOf93,
 v53:=Tryz.zeroValue93,
 t55:=Tryz.underlying144,
 a55:=Tryz.isAgg144,
 z55:=Tryz.sizeOf144,
 v55:=Tryz.zeroValue144,
 t66:=Tryz.underlying290,
 a66:=Tryz.isAgg290,
 z66:=Tryz.sizeOf290,
 v66:=Tryz.zeroValue290,
 t70:=Tryz.underlying294,
 a70:=Tryz.isAgg294,
 z70:=Tryz.sizeOf294,
 v70:=Tryz.zeroValue294,
 t76:=Tryz.underlying305,
 a76:=Tryz.isAgg305,
 z76:=Tryz.sizeOf305,
 v76:=Tryz.zeroValue305,
 t77:=Tryz.underlying271,
 a77:=Tryz.isAgg271,
 z77:=Tryz.sizeOf271,
 v77:=Tryz.zeroValue271}
end Go.Proofs
namespace Go.Proofs.YtfokdakioeoniaaGreat
open Go.Proofs.Tryz
inductive kx (E:List (Nat×Nat)):Nat->Nat->Prop
 |refl (a:Nat):kx E a a
 |I4 {a b:Nat}:(a,b)∈E->kx E a b
 |symm {a b:Nat}:kx E a b->kx E b a
 |trans {a b c:Nat}:kx E a b->kx E b c->kx E a c
theorem kx.mono {E F:List (Nat×Nat)} (h: ∀p∈E,p∈F) {a b:Nat} (c:kx E a b):kx F a b:=by
 induction c with
 |refl a=>exact .refl a
 |I4 h'=>exact .I4 (h _ h')
 |symm _ ih=>exact ih.symm
 |trans _ _ X7 X8=>exact X7.trans X8
theorem kx.label {E:List (Nat×Nat)} {α:Type} (f:Nat->α) (h: ∀p∈E,f p.1=f p.2) {a b:Nat} (c:kx E a b):f a=f b:=by
 induction c with
 |refl a=>rfl
 |I4 h'=>exact h _ h'
 |symm _ ih=>exact ih.symm
 |trans _ _ X7 X8=>exact X7.trans X8
def mF (f:Nat->Nat) (b:Nat):Bool:=(List.range b).all λk=>f k !=f b
theorem iT (f:Nat->Nat) (b:Nat):mF f b=true↔ ∀k,k<b->f k≠f b:=by
 unfold mF;rw [List.all_eq_true];constructor
 .intro h k hk;simpa using h k (List.mem_range.2 hk)
 .intro h k hk;simpa using h k (List.mem_range.1 hk)
def cls (f:Nat->Nat) (n:Nat):Nat:=(List.range n).countP (mF f)
theorem O0 (f:Nat->Nat):cls f 0=0:=rfl
theorem vd (f:Nat->Nat) (n:Nat):cls f (n+1)=cls f n+if mF f n then 1 else 0:=by
 unfold cls;rw [List.range_succ,List.countP_append,List.countP_singleton]
theorem U_ (f:Nat->Nat) (n:Nat):cls f n<=n:=by
 induction n with
 |zero=>exact cG
 |succ n ih=>rw [vd];split<;>omega
def merge (f:Nat->Nat) (x y:Nat) (b:Nat):Nat:=if f b=y then x else f b
theorem Me (f:Nat->Nat) (x y:Nat) (qH:x≠y) (n:Nat):
 cls (merge f x y) n+(if(∃a,a<n/\f a=x)/\(∃a,a<n/\f a=y)then 1 else 0)=cls f n:=by
 induction n with
 |zero=>simp [O0]
 |succ n ih=>
  rw [vd,vd]
  have hex: ∀z,(∃a,a<n+1/\f a=z)↔((∃a,a<n/\f a=z)\/f n=z):=by
   intro z;constructor
   .rintro ⟨a,ha,e⟩
    by_cases h:a=n
    .exact Or.inr (h▸e)
    .exact Or.inl ⟨a,ae,e⟩
   .rintro (⟨a,ha,e⟩|e)
    .exact ⟨a,ae,e⟩
    .exact ⟨n,ae,e⟩
  by_cases hx:f n=x
  .have hy':f n≠y:=λe=>qH (hx▸e)
   have hm:merge f x y n=x:=by unfold merge;rw [if_neg hy',hx]
   have h1:mF (merge f x y) n=true↔(¬(∃a,a<n/\f a=x))/\ ¬(∃a,a<n/\f a=y):=by
    rw [iT,hm];constructor
    .intro h
     refine ⟨λ⟨a,ha,e⟩=>h a ha ?_,λ⟨a,ha,e⟩=>h a ha ?_⟩
     .unfold merge;split<;>first|rfl|exact e
     .unfold merge;rw [if_pos e]
    .rintro ⟨h1,h2⟩ k hk e
     unfold merge at e;split at e
     .rename_i h;exact h2 ⟨k,hk,h⟩
     .exact h1 ⟨k,hk,e⟩
   have h2:mF f n=true↔ ¬(∃a,a<n/\f a=x):=by
    rw [iT,hx];exact ⟨λh ⟨a,ha,e⟩=>h a ha e,λh k hk e=>h ⟨k,hk,e⟩⟩
   simp only [hex];by_cases p1: ∃a,a<n/\f a=x<;>by_cases p2: ∃a,a<n/\f a=y<;>simp_all<;>omega
  .by_cases hy:f n=y
   .have hm:merge f x y n=x:=by unfold merge;rw [if_pos hy]
    have h1:mF (merge f x y) n=true↔(¬(∃a,a<n/\f a=x))/\ ¬(∃a,a<n/\f a=y):=by
     rw [iT,hm];constructor
     .intro h
      refine ⟨λ⟨a,ha,e⟩=>h a ha ?_,λ⟨a,ha,e⟩=>h a ha ?_⟩
      .unfold merge;split<;>first|rfl|exact e
      .unfold merge;rw [if_pos e]
     .rintro ⟨h1,h2⟩ k hk e
      unfold merge at e;split at e
      .rename_i h;exact h2 ⟨k,hk,h⟩
      .exact h1 ⟨k,hk,e⟩
    have h2:mF f n=true↔ ¬(∃a,a<n/\f a=y):=by
     rw [iT,hy];exact ⟨λh ⟨a,ha,e⟩=>h a ha e,λh k hk e=>h ⟨k,hk,e⟩⟩
    simp only [hex];by_cases p1: ∃a,a<n/\f a=x<;>by_cases p2: ∃a,a<n/\f a=y<;>simp_all<;>omega
   .have hm:merge f x y n=f n:=by unfold merge;rw [if_neg hy]
    have h1:mF (merge f x y) n=true↔mF f n=true:=by
     rw [iT,iT,hm];constructor
     .intro h k hk e
      refine h k hk ?_;unfold merge;rw [if_neg (by rw [e];exact hy)];exact e
     .intro h k hk e
      unfold merge at e;split at e
      .exact hx e.symm
      .exact h k hk e
    simp only [hex];by_cases p1: ∃a,a<n/\f a=x<;>by_cases p2: ∃a,a<n/\f a=y<;>by_cases p3:mF f n=true<;>simp_all<;>omega
def nG (n:Nat) (E:List (Nat×Nat)) (f:Nat->Nat):Prop:= ∀a b,a<n->b<n->(f a=f b↔kx E a b)
theorem nG.nil (n:Nat):nG n [] (λb=>b):=by
 intro a b _ _;constructor
 .rintro rfl;exact .refl _
 .intro h;exact h.label (λb=>b) (λp hp=>absurd hp aX)
theorem kx.F0 {E:List (Nat×Nat)} {x y a b:Nat}:kx (E++ [(x,y)]) a b↔kx E a b\/(kx E a x/\kx E y b)\/(kx E a y/\kx E x b):=by
 constructor
 .intro h
  induction h with
  |refl a=>exact Or.inl (.refl _)
  | @I4 a b h=>
    rcases List.mem_append.1 h with h|h
    .exact Or.inl (.I4 h)
    .simp only [List.mem_singleton,Prod.mk.injEq]at h
     obtain ⟨rfl,rfl⟩:=h;exact Or.inr (Or.inl ⟨.refl _,.refl _⟩)
  |symm _ ih=>
   rcases ih with h|⟨h1,h2⟩|⟨h1,h2⟩
   .exact Or.inl h.symm
   .exact Or.inr (Or.inr ⟨h2.symm,h1.symm⟩)
   .exact Or.inr (Or.inl ⟨h2.symm,h1.symm⟩)
  |trans _ _ X7 X8=>
   rcases X7 with h|⟨h1,h2⟩|⟨h1,h2⟩<;>rcases X8 with g|⟨g1,g2⟩|⟨g1,g2⟩
   .exact Or.inl (h.trans g)
   .exact Or.inr (Or.inl ⟨h.trans g1,g2⟩)
   .exact Or.inr (Or.inr ⟨h.trans g1,g2⟩)
   .exact Or.inr (Or.inl ⟨h1,h2.trans g⟩)
   .exact Or.inr (Or.inl ⟨h1,g2⟩)
   .exact Or.inl (h1.trans g2)
   .exact Or.inr (Or.inr ⟨h1,h2.trans g⟩)
   .exact Or.inl (h1.trans g2)
   .exact Or.inr (Or.inr ⟨h1,g2⟩)
 .have hm: ∀{a b},kx E a b->kx (E++ [(x,y)]) a b:=λh=>h.mono (λp hp=>List.mem_append_left _ hp)
  have he:kx (E++ [(x,y)]) x y:= .I4 aX;rintro (h|⟨h1,h2⟩|⟨h1,h2⟩)
  .exact hm h
  .exact (hm h1).trans (he.trans (hm h2))
  .exact (hm h1).trans (he.symm.trans (hm h2))
theorem nG.skip {n:Nat} {E:List (Nat×Nat)} {f:Nat->Nat} (h:nG n E f) {x y:Nat} (hx:x<n) (hy:y<n) (e:f x=f y):nG n (E++ [(x,y)]) f:=by
 intro a b ha hb;have hc:=(h x y hx hy).1 e;rw [kx.F0,h a b ha hb];constructor
 .exact Or.inl
 .rintro (g|⟨g1,g2⟩|⟨g1,g2⟩)
  .exact g
  .exact g1.trans (hc.trans g2)
  .exact g1.trans (hc.symm.trans g2)
theorem nG.join {n:Nat} {E:List (Nat×Nat)} {f:Nat->Nat} (h:nG n E f) {x y:Nat} (hx:x<n) (hy:y<n) (_e:f x≠f y):nG n (E++ [(x,y)]) (merge f (f x) (f y)):=by
 intro a b ha hb;rw [kx.F0,<-h a b ha hb,<-h a x ha hx,<-h y b hy hb,<-h a y ha hy,<-h x b hx hb];unfold merge;by_cases h1:f a=f y<;>by_cases h2:f b=f y<;>simp [h1,h2]<;>omega
theorem nG.I5 {n:Nat} {f:Nat->Nat} {x y:Nat} (hx:x<n) (hy:y<n) (e:f x≠f y):cls (merge f (f x) (f y)) n+1=cls f n:=by
 have:=Me f (f x) (f y) e n;rw [if_pos ⟨⟨x,hx,rfl⟩,⟨y,hy,rfl⟩⟩]at this;exact this
structure mh (n:Nat) (E:List (Nat×Nat)) (f:Nat->Nat):Prop where
 le: ∀b,b<n->f b<=b
 conn: ∀b,b<n->kx E b (f b)
theorem mh.tells {n:Nat} {E:List (Nat×Nat)} {f:Nat->Nat} (h:mh n E f) (he: ∀p∈E,f p.1=f p.2):nG n E f:=by
 intro a b ha hb;constructor
 .intro e
  have:=h.conn b hb;rw [<-e]at this;exact (h.conn a ha).trans this.symm
 .intro c;exact c.label f he
theorem mh.first {n:Nat} {E:List (Nat×Nat)} {f:Nat->Nat} (h:mh n E f) (he: ∀p∈E,f p.1=f p.2) (b:Nat) (hb:b<n):(f b==b)=mF f b:=by
 rw [Bool.eq_iff_iff,iT];simp only [beq_iff_eq];constructor
 .intro e k hk hf
  have:=h.le k ae;omega
 .intro hf
  have h1:=h.le b hb;by_cases e:f b=b
  .exact e
  .have h3:f (f b)=f b:=(h.tells he (f b) b ae hb).2 (h.conn b hb).symm
   exact absurd h3 (hf (f b) ae)
