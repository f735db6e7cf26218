/- Texts of the proof. -/
import Derived.KernelRfl
import Derived.WalkKit
import Derived.WalkSpells
import Derived.Sort.Grow
import Derived.Lib.Hide
import Derived.Laws.CopyOwn
import Derived.Laws.BitsAllLaws
import Derived.Deep.QuietTactic
import Derived.BigQuiet
import Derived.Test.YtbnamicbjaaelaaGreatProg
import Derived.WalkLawsBesides
import Derived.Deep.RegionWith
import Derived.Deep.RegionHeld3
import Derived.Lib.Strings
import Derived.Lib.Slices
import Derived.Lib.Small
import Derived.Lib.Walk
import Derived.Lib.BitFns
import Derived.Deep.DeepCutAuto
import Derived.Deep.CutBlock
import Derived.IntWalk
import Derived.Deep.LoopGhost
import Derived.Laws.AppendOwnNone
import Derived.ProofKit
import Derived.OpenShut
import Derived.ShutString
import Derived.ChangeOld
import Derived.Below
import Derived.Deep.RegionHeld
import Derived.Deep.Slices
import Derived.Maps.RangeWalk
import Derived.Maps.OwnSet
import Derived.Maps.OwnOps
import Derived.Maps.Views
import Derived.Lib.MinMax
set_option linter.all false
namespace Go.Proofs.YtbnamicbjaaelaaGreat
open Go.Proofs.Tryz
theorem _root_.Go.RowKit.Hid.o {p:Prop} (h:Go.RowKit.Hid p):p:=h
theorem ah {p:Prop} (h:p):Go.RowKit.Hid p:=h
def val:List Nat->Nat
 | []=>0
 |x::xs=>x+4294967296*val xs
def Small (l:List Nat):Prop:= ∀x∈l,x<4294967296
theorem Small.tail {x:Nat} {l:List Nat} (h:Small (x::l)):Small l:=λy hy=>h y (List.mem_cons_of_mem _ hy)
theorem Small.take {l:List Nat} (h:Small l) (k:Nat):Small (l.take k):=λy hy=>h y (List.mem_of_mem_take hy)
theorem Small.drop {l:List Nat} (h:Small l) (k:Nat):Small (l.drop k):=λy hy=>h y (List.mem_of_mem_drop hy)
theorem Small.nil:Small []:=λ_ h=>by cases h
theorem Small.append {l m:List Nat} (h:Small l) (h':Small m):Small (l++m):=λy hy=>by
 rcases List.mem_append.1 hy with h1|h1
 .exact h y h1
 .exact h' y h1
theorem Small.one {x:Nat} (h:x<4294967296):Small [x]:=λy hy=>by
 simp at hy;omega
theorem Small.set {l:List Nat} (h:Small l) (k x:Nat) (hx:x<4294967296):Small (l.set k x):=λy hy=>by
 rcases List.mem_or_eq_of_mem_set hy with h1|h1
 .exact h y h1
 .omega
theorem Small.replicate (n:Nat):Small (List.replicate n 0):=λy hy=>by
 have:=List.eq_of_mem_replicate hy;omega
theorem cO (l m:List Nat):val (l++m)=val l+4294967296^l.length*val m:=by
 induction l with
 |nil=>simp [val]
 |cons x xs ih=>
  simp only [List.cons_append,val,ih,List.length_cons,Nat.pow_succ,Nat.mul_add,Nat.add_assoc];rw [<-Nat.mul_assoc,Nat.mul_comm 4294967296 (4294967296^xs.length)]
theorem jt {l:List Nat} (h:Small l):val l<4294967296^l.length:=by
 induction l with
 |nil=>simp [val]
 |cons x xs ih=>
  have h1:=ih h.tail;have h2:=h x (List.mem_cons_self ..);simp only [val,List.length_cons,Nat.pow_succ];generalize 4294967296^xs.length=p at*;omega
def limb (l:List Nat) (i:Nat):Nat:=l[i]?.getD 0
theorem jS (l:List Nat) (k:Nat) (h:k<=l.length):val l=val (l.take k)+4294967296^k*val (l.drop k):=by
 conv=>lhs;rw [<-List.take_append_drop k l]
 rw [cO,List.length_take,Nat.min_eq_left h]
theorem tE {l:List Nat} {k i:Nat} (h:i<k):limb (l.take k) i=limb l i:=by
 unfold limb;rw [List.getElem?_take,if_pos h]
def len (n:Nat):Nat:=if n=0 then 0 else n.log2/32+1
theorem pow_eq (k:Nat):(4294967296:Nat)^k=2^(32*k):=by
 rw [show(4294967296:Nat)=2^32 from by decide,<-Nat.pow_mul]
theorem cI {n k:Nat}:len n<=k↔n<4294967296^k:=by
 unfold len;rw [pow_eq];by_cases h:n=0
 .subst h;simp [Nat.two_pow_pos]
 .rw [if_neg h,<-Nat.log2_lt h];omega
theorem oC:len 0=0:=rfl
theorem iq (n:Nat):n<4294967296^len n:=cI.1 (Nat.le_refl _)
theorem df {m n:Nat} (h:m<=n):len m<=len n:=cI.2 (Nat.lt_of_le_of_lt h (iq n))
theorem NI {n:Nat} (h:0<n) (h':n<4294967296):len n=1:=by
 have h1:= @cI n 1;have h2:= @cI n 0;simp at h1 h2;omega
theorem qi {l:List Nat} (h:Small l):len (val l)<=l.length:=cI.2 (jt h)
theorem kU {l:List Nat} (_h:Small l) {k:Nat} (hk:k<=l.length) (hn:len (val l)<=k):val (l.take k)=val l:=by
 have h1:=jS l k hk;have h2:=cI.1 hn
 have h3:val (l.drop k)=0:=by
  apply Nat.eq_zero_of_not_pos;intro h4;have:4294967296^k*1<=4294967296^k*val (l.drop k):=Nat.mul_le_mul_left _ h4;omega
 rw [h1,h3];simp
open Go.RowKit Go.Sort
structure Ext (w w':World):Prop where
 below:Below w.heap.size w w'
 drawn:w.drawn<=w'.drawn
theorem Ext.refl (w:World):Ext w w:=⟨Below.refl _ _,Nat.le_refl _⟩
theorem ae {p:Prop} (h:p:=by omega):p:=h
theorem aq {p:Prop} (h:p:=by decide):p:=h
theorem ax {p:Prop} (h:p:=by kernel_rfl):p:=h
theorem aG {p:Prop} (h:p:=by simp):p:=h
theorem a_ {p:Prop} (h:p:=by simp only [intOf];omega):p:=h
theorem bf {p:Prop} (h:p:=by go_num):p:=h
theorem eN {p:Prop} (h:p:=by rfl):p:=h
theorem bA {p q:Prop} (h:q) (k:q->p:=by intro h;omega):p:=k h
theorem qj {p q r:Prop} (h:q) (i:r) (k:q->r->p:=by intro h i;omega):p:=k h i
theorem aO3 {p q r s:Prop} (h:q) (i:r) (j:s) (k:q->r->s->p:=by intro h i j;omega):p:=k h i j
theorem dW {p:Prop} (h:p:=by rw [IntKind.wrap_i64];omega):p:=h
theorem ar {w:World}:Ext w w:=Ext.refl w
theorem aZ {n:Nat}:0<=n:=Nat.zero_le n
theorem bY {n:Nat}:n<=n:=Nat.le_refl n
theorem Ext.size {w w':World} (h:Ext w w'):w.heap.size<=w'.heap.size:=h.below.size
theorem Ext.trans {a b c:World} (h:Ext a b) (k:Ext b c):Ext a c:=⟨h.below.trans (k.below.mono h.size),Nat.le_trans h.drawn k.drawn⟩
theorem Ext.alloc {a w:World} (h:Ext a w) (o:Obj):Ext a (w.alloc o):=⟨h.below.alloc h.size o,h.drawn⟩
theorem Ext.drew {a w:World} (h:Ext a w):Ext a w.drew:=⟨h.below.drew,Nat.le_succ_of_le h.drawn⟩
theorem Ext.drewN {a w:World} (h:Ext a w) (n:Nat):Ext a (w.drewN n):=⟨⟨h.below.os,h.below.tape,h.below.output,h.below.size,h.below.block⟩,Nat.le_trans h.drawn (Nat.le_add_right _ _)⟩
theorem Ext.setCell {a w:World} (h:Ext a w) {p:Addr} (hp:a.heap.size<=p.block) (u:Value):Ext a (w.setCell p u):=⟨h.below.setCell hp u,h.drawn⟩
theorem Ext.cell {w w':World} (h:Ext w w') {p:Addr} (hp:p.block<w.heap.size):w'.cell? p=w.cell? p:=h.below.cell hp
theorem Ext.frozen {w w':World} (h:Ext w w') {p:Addr} (hp:p.block<w.heap.size):w'.frozen? p=w.frozen? p:=h.below.frozen hp
theorem Ext.grow {w w':World} (h:Ext w w'): ∃q os,w'=Sort.grow (w.drewN q) os:=by
 obtain ⟨⟨h1,h2,h3,h4,h5⟩,h6⟩:=h;refine ⟨w'.drawn-w.drawn,w'.heap.extract w.heap.size w'.heap.size,?_⟩
 have hh:w'.heap=w.heap++w'.heap.extract w.heap.size w'.heap.size:=by
  apply Array.ext_getElem?;intro k;rw [Array.getElem?_append];by_cases hk:k<w.heap.size
  .rw [if_pos hk,h5 k hk]
  .rw [if_neg hk,Array.getElem?_extract]
   by_cases Qy:k<w'.heap.size
   .rw [if_pos ae];congr 1;omega
   .rw [if_neg ae];exact Array.getElem?_eq_none ae
 cases w' with
 |mk heap' tape' ZG os' Yi=>
  cases w with
  |mk heap tape drawn os output=>
   simp only at h1 h2 h3 h4 h6 hh;subst h1 h2 h3;simp only [Sort.grow,World.drewN,World.mk.injEq,true_and,and_true];exact ⟨hh,ae⟩
def Quiet (w w':World):Prop:= ∃q,w'=w.drewN q
theorem Quiet.refl (w:World):Quiet w w:=⟨0,rfl⟩
theorem Quiet.trans {a b c:World} (h:Quiet a b) (k:Quiet b c):Quiet a c:=by
 obtain ⟨q,rfl⟩:=h;obtain ⟨r,rfl⟩:=k;exact ⟨q+r,by simp [World.drewN,Nat.add_assoc]⟩
theorem Quiet.drewN {a b:World} (h:Quiet a b) (q:Nat):Quiet a (b.drewN q):=h.trans ⟨q,rfl⟩
theorem Quiet.drew {a b:World} (h:Quiet a b):Quiet a b.drew:=h.trans ⟨1,rfl⟩
theorem Quiet.ext {a b:World} (h:Quiet a b):Ext a b:=by obtain ⟨q,rfl⟩:=h;exact ar.drewN q
theorem cY {w:World} {p:Addr} {v:Value} (h:w.cell? p=some v):p.block<w.heap.size:=by
 unfold World.cell? at h;by_cases hb:p.block<w.heap.size
 .exact hb
 .rw [Array.getElem?_eq_none ae]at h;simp at h
structure eU (w:World) (a:Option Addr) (c:Nat) (l:List Nat):Prop where
 le:l.length<=c
 cap:c<=9223372036854775807
 short:l.length<=1099511627776
 Kq:a=none->c=0
 small:Small l
 cell: ∀i,i<l.length-> ∃b o,a=some ⟨b,o,none⟩/\w.cell? ⟨b,o+i,none⟩=some (.int .u32 (limb l i:Nat))
def Raw (w:World) (a:Option Addr) (k c n:Nat):Prop:= ∃l,l.length=k/\val l=n/\eU w a c l
def aT (w:World) (b:Nat) (T:TypeId) (vs:List Value):Prop:=w.heap[b]?=some (.cells vs.toArray T (0,0))
theorem aT.lt {w:World} {b:Nat} {T:TypeId} {vs:List Value} (h:aT w b T vs):b<w.heap.size:=(Array.getElem?_eq_some_iff.1 h).1
theorem aT.cell {w:World} {b:Nat} {T:TypeId} {vs:List Value} (h:aT w b T vs) (i:Nat):w.cell? ⟨b,i,none⟩=vs[i]?:=by
 simp [World.cell?,show w.heap[b]?=_ from h]
theorem aT.cl {w:World} {b:Nat} {T:TypeId} {vs:List Value} (h:aT w b T vs) (i:Nat) (v:Value) (hv:vs[i]?=some v):w.cell? ⟨b,i,none⟩=some v:=(h.cell i).trans hv
theorem aT.frozen {w:World} {b:Nat} {T:TypeId} {vs:List Value} (h:aT w b T vs) (i:Nat):w.frozen? ⟨b,i,none⟩=false:=by
 simp [World.frozen?,show w.heap[b]?=_ from h]
theorem aT.ext {w w':World} {b:Nat} {T:TypeId} {vs:List Value} (h:aT w b T vs) (e:Ext w w'):aT w' b T vs:=by
 unfold aT;rw [e.below.block b h.lt];exact h
theorem aT.below {B:Nat} {w w':World} {b:Nat} {T:TypeId} {vs:List Value} (h:aT w b T vs) (e:Below B w w') (hb:b<B):aT w' b T vs:=by
 unfold aT;rw [e.block b hb];exact h
theorem aT.set {w:World} {b:Nat} {T:TypeId} {vs:List Value} (h:aT w b T vs) (i:Nat) (v:Value):aT (w.setCell ⟨b,i,none⟩ v) b T (vs.set i v):=by
 unfold aT World.setCell;simp [Array.getElem?_modify,show w.heap[b]?=_ from h]
theorem aT.other {w:World} {b:Nat} {T:TypeId} {vs:List Value} (h:aT w b T vs) (p:Addr) (v:Value) (hp:p.block≠b):aT (w.setCell p v) b T vs:=by
 unfold aT;rw [Below.heap_setCell _ _ _ _ ae];exact h
theorem aT.alloc (w:World) (T:TypeId) (vs:List Value):aT (w.alloc (.cells vs.toArray T)) w.heap.size T vs:=by
 unfold aT World.alloc;simp
theorem aC {W w1:World} (hx:Ext W w1) {p:Addr} {v:Value} (h:W.cell? p=some v):w1.cell? p=some v:=by rw [hx.cell (cY h)];exact h
theorem aH {W w1:World} {b:Nat} {T:TypeId} {v0 v1:Value} (h:aT W b T [v0,v1]) (hx:Ext W w1):
 w1.cell? ⟨b,0,none⟩=some v0/\w1.cell? ⟨b,1,none⟩=some v1/\w1.frozen? ⟨b,0,none⟩=false/\w1.frozen? ⟨b,1,none⟩=false:=
 ⟨(h.ext hx).cell 0,(h.ext hx).cell 1,(h.ext hx).frozen 0,(h.ext hx).frozen 1⟩
theorem aK {W w1:World} {b:Nat} {T:TypeId} {v0 v1 v2:Value} (h:aT W b T [v0,v1,v2]) (hx:Ext W w1):
 w1.cell? ⟨b,0,none⟩=some v0/\w1.cell? ⟨b,1,none⟩=some v1/\w1.cell? ⟨b,2,none⟩=some v2/\w1.frozen? ⟨b,0,none⟩=false/\w1.frozen? ⟨b,1,none⟩=false/\w1.frozen? ⟨b,2,none⟩=false:=
 ⟨(h.ext hx).cell 0,(h.ext hx).cell 1,(h.ext hx).cell 2,(h.ext hx).frozen 0,(h.ext hx).frozen 1,(h.ext hx).frozen 2⟩
def Fr (b:Nat) (a:Option Addr):Prop:= ∀x,a=some x->b<=x.block
theorem Fr.none (b:Nat):Fr b Option.none:=λ_ h=>by cases h
theorem Fr.some {b b' o:Nat} {s} (h:b<=b'):Fr b (Option.some ⟨b',o,s⟩):=λ_ e=>by cases e;exact h
theorem Fr.mono {b b':Nat} {a:Option Addr} (h:Fr b a) (hb:b'<=b):Fr b' a:=λx e=>Nat.le_trans hb (h x e)
theorem eU.ext {w w':World} {a:Option Addr} {c:Nat} {l:List Nat} (h:eU w a c l) (e:Ext w w'):eU w' a c l:=
 ⟨h.le,h.cap,h.short,h.Kq,h.small,λi hi=>by
   obtain ⟨b,o,ha,hc⟩:=h.cell i hi;exact ⟨b,o,ha,by rw [e.cell (cY hc)];exact hc⟩⟩
theorem eU.below {w w':World} {B:Nat} {a:Option Addr} {c:Nat} {l:List Nat} (h:eU w a c l) (e:Below B w w') (hb: ∀x,a=some x->x.block<B):eU w' a c l:=
 ⟨h.le,h.cap,h.short,h.Kq,h.small,λi hi=>by
   obtain ⟨b,o,ha,hc⟩:=h.cell i hi;exact ⟨b,o,ha,by rw [e.cell (p:=⟨b,o+i,none⟩) (show b<B from hb ⟨b,o,none⟩ ha)];exact hc⟩⟩
theorem eU.setCell {w:World} {a:Option Addr} {c:Nat} {l:List Nat} (h:eU w a c l) (p:Addr) (v:Value) (hp: ∀x,a=some x->x.block≠p.block):eU (w.setCell p v) a c l:=
 ⟨h.le,h.cap,h.short,h.Kq,h.small,λi hi=>by
   obtain ⟨b,o,ha,hc⟩:=h.cell i hi;refine ⟨b,o,ha,?_⟩;rw [World.cell?_setCell_other _ _ _ _ (by intro e;exact hp _ ha (by rw [e]))];exact hc⟩
theorem eU.take {w:World} {a:Option Addr} {c:Nat} {l:List Nat} (h:eU w a c l) (k:Nat) (hk:k<=l.length):eU w a c (l.take k):=
 ⟨by rw [List.length_take];have:=h.le;omega,h.cap,by rw [List.length_take];have:=h.short;omega,h.Kq,h.small.take k,λi hi=>by
   rw [List.length_take]at hi;obtain ⟨b,o,ha,hc⟩:=h.cell i ae;exact ⟨b,o,ha,by rw [tE ae];exact hc⟩⟩
theorem eU.nil (w:World):eU w none 0 []:=⟨aZ,ae,aZ,λ_=>rfl,Small.nil,λ_ h=>by cases h⟩
theorem eU.at {w:World} {a:Option Addr} {c:Nat} {l:List Nat} (h:eU w a c l) (h0:0<l.length): ∃b o,a=some ⟨b,o,none⟩:=by
 obtain ⟨b,o,ha,_⟩:=h.cell 0 h0;exact ⟨b,o,ha⟩
theorem eU.cellAt {w:World} {b o c:Nat} {l:List Nat} (h:eU w (some ⟨b,o,none⟩) c l) (i:Nat) (hi:i<l.length):w.cell? ⟨b,o+i,none⟩=some (.int .u32 (limb l i:Nat)):=by
 obtain ⟨b',o',e,hc⟩:=h.cell i hi;cases e;exact hc
theorem Raw.ext {w w':World} {a:Option Addr} {k c n:Nat} (h:Raw w a k c n) (e:Ext w w'):Raw w' a k c n:=by
 obtain ⟨l,h1,h2,h3⟩:=h;exact ⟨l,h1,h2,h3.ext e⟩
theorem Raw.setCell {w:World} {a:Option Addr} {k c n:Nat} (h:Raw w a k c n) (p:Addr) (v:Value) (hp: ∀x,a=some x->x.block≠p.block):Raw (w.setCell p v) a k c n:=by
 obtain ⟨l,h1,h2,h3⟩:=h;exact ⟨l,h1,h2,h3.setCell p v hp⟩
theorem Fr.ne {b b':Nat} {a:Option Addr} (h:Fr b a) (hb:b'<b): ∀x,a=Option.some x->x.block≠b':=λx e=>bA (h x e)
theorem Raw.nil (w:World):Raw w none 0 0 0:=⟨[],rfl,rfl,eU.nil _⟩
theorem Raw.cI {w:World} {a:Option Addr} {k c n:Nat} (h:Raw w a k c n):len n<=k:=by
 obtain ⟨l,h1,h2,h3⟩:=h;rw [<-h1,<-h2];exact qi h3.small
theorem Raw.le {w:World} {a:Option Addr} {k c n:Nat} (h:Raw w a k c n):k<=c/\k<=1099511627776/\c<=9223372036854775807:=by
 obtain ⟨l,h1,h2,h3⟩:=h;exact ⟨h1▸h3.le,h1▸h3.short,h3.cap⟩
theorem Raw.cut {w:World} {a:Option Addr} {k c n:Nat} (h:Raw w a k c n):Raw w a (len n) c n:=by
 obtain ⟨l,h1,h2,h3⟩:=h;have hl:=qi h3.small;rw [h2]at hl;exact ⟨l.take (len n),by rw [List.length_take];omega,by rw [kU h3.small hl (by rw [h2];exact bY),h2],h3.take _ hl⟩
theorem pX (z:Value) (n:Nat):madeCells #[z] n=(List.replicate n z).toArray:=by
 unfold madeCells;apply Array.ext
 .simp
 .intro i h1 h2;simp [Nat.mod_one]
theorem bS {P:Program} (w:World) {ops:Array Oper} {rest:List Oper} {o:Oper} {a:Act} {Q:Exit->Act->World->Prop}
 (hg:o.guard=none) (l c:Operand) (t:TypeId) (hop:o.op=Op.makeSlice t l c)
 (e:TypeId) (z:Value) (bytes:Nat) (h1:P.underlying t=some (.slice e)) (h2:(P.info? e).map (λi=>(i.zero,i.size,i.bytes))=some (some z,1,bytes)) (h3:z.cells= #[z])
 (L C:Int) (n:Nat) (hl:a.eval l= .int .i64 L) (hc:a.eval c= .int .i64 C) (hL:L=(n:Int)) (hC:C=(n:Int)) (b2:bytes*n<=281474976710656) (b3:n<=9223372036854775807)
 (hK: ∀w',Hid (aT w' w.heap.size e (List.replicate n z))->Ext w w'->Hid (w'.heap.size=w.heap.size+1)->wpList P ops Q rest (a.put o.dst (.slice (some ⟨w.heap.size,0,none⟩) n n)) w'):
 wpList P ops Q (o::rest) a w:=by
 refine wpList_plain hg λK hK'=> ?_;obtain ⟨i,h2,h4,h5,h6⟩:=info_parts h2;have hrun:=run_make (P:=P) w t e i z h1 h2 h4 .i64 .i64 n n ae (Int.le_refl _) (by rw [h6,<-Int.natCast_mul];omega) ae;subst hL;subst hC;unfold Oper.wp;simp only [Int.toNat_natCast,h5,Nat.mul_one,h3,pX]at hrun;simp [execOp,hop,hl,hc,hrun,Result.andThen];exact hK' _ _ (hK _ (aT.alloc _ _ _) (ar.alloc _) (show _=_ by simp))
theorem Ext.setRow {a w:World} (h:Ext a w) {g:Nat} (hg:a.heap.size<=g) (cs:Array Value):Ext a (w.setRow g cs):=⟨below_setRow h.below hg cs,h.drawn⟩
theorem vd {P:Program} {w:World} {ops:Array Oper} {rest:List Oper} {o:Oper} {a:Act} {Q:Exit->Act->World->Prop} (hgd:o.guard=none) (d s:Operand) (dT sT:TypeId)
 (ho:o.op= .call {callee:= .builtin .copy,args:= #[d,s],argTypes:= #[dT,sT]}) (elem:TypeId) (hu:P.underlying dT=some (.slice elem)) (hsz:(P.info? elem).map (·.size)=some 1)
 (dp sp:Option Addr) (NJ Qz NK QA:Nat) (hd:a.eval d= .slice dp NJ Qz) (hs:a.eval s= .slice sp NK QA)
 (g off:Nat) (cur:List Value) (t:TypeId) (hg:aT w g t cur) (cs:List Value) (hn:cs.length=Nat.min NK NJ)
 (ZH:0<cs.length->dp=some ⟨g,off,none⟩/\ ∃ad,sp=some ad/\ ∀j v,cs[j]?=some v->w.cell? (ad.add j)=some v)
 (Kr:off+cs.length<=cur.length) (h1: ∀v∈cs,v.oneCell'=true)
 (h: ∀w',Hid (aT w' g t (splice cur off cs))->Hid (∀a0,Ext a0 w->a0.heap.size<=g->Ext a0 w')->Hid (w'.heap.size=w.heap.size)->wpList P ops Q rest (a.put o.dst (goInt cs.length)) w'):
 wpList P ops Q (o::rest) a w:=by
 by_cases h0:cs.length=0
 .obtain rfl:cs= []:=List.eq_nil_of_length_eq_zero h0
  refine wpList_copy_nothing hgd d s dT sT ho elem hu hsz dp sp NJ Qz NK QA hd hs (by simpa using hn.symm) ?_;exact h w (show aT _ _ _ _ by simpa [splice]using hg) (show∀a0,_ from λ_ h _=>h) rfl
 .obtain ⟨rfl,ad,rfl,ZI⟩:=ZH ae
  refine wpList_copy_own hgd d s dT sT ho elem hu hsz g off NJ Qz ad NK QA hd hs cur.toArray t hg cs hn ZI (by simpa using Kr) h1 ?_;exact h _ (show aT _ _ _ _ by unfold aT;simpa [splice]using setRow_heap w g _ _ t _ hg) (show∀a0,_ from λ_ h hb=>h.setRow hb _) (show _=_ by simp [World.setRow])
def dr (l:List Nat):List Value:=l.map λn=>Value.int .u32 (n:Nat)
theorem ir (l:List Nat):(dr l).length=l.length:=by simp [dr]
theorem fP (l:List Nat) (i x:Nat):(dr l).set i (.int .u32 (x:Nat))=dr (l.set i x):=by simp [dr,List.map_set]
theorem cW (n:Nat):List.replicate n (Value.int .u32 0)=dr (List.replicate n 0):=by simp [dr]
theorem eF (l:List Nat) (i:Nat) (h:i<l.length):(dr l)[i]?=some (.int .u32 (limb l i:Nat)):=by simp [dr,limb,h]
theorem aT.limbs {w:World} {b:Nat} {T:TypeId} {l:List Nat} (h:aT w b T (dr l)) (hs:Small l) (hc:l.length<=1099511627776):eU w (some ⟨b,0,none⟩) l.length l:=
 ⟨bY,ae,hc,(λe=>by cases e),hs,λi hi=>⟨b,0,rfl,by rw [Nat.zero_add,h.cell,eF _ _ hi]⟩⟩
theorem Ps (x y:Nat) (hx:x<4294967296) (hy:y<4294967296):bits BinOp.or IntKind.u64 (x:Int) ((y:Int)*4294967296)=((x+4294967296*y:Nat):Int):=by
 have e:((y:Int)*4294967296)=((y*4294967296:Nat):Int):=ae;rw [e,u64_or_nat _ _ ae ae];have:=Nat.shiftLeft_add_eq_or_of_lt (i:=32) (b:=x) ae y;rw [Nat.shiftLeft_eq]at this;rw [Nat.or_comm,<-this];congr 1;omega
theorem Cu (x y:Nat) (hx:x<4294967296) (hy:y<4294967296):bits BinOp.or IntKind.u64 ((x:Int)*4294967296) (y:Int)=((y+4294967296*x:Nat):Int):=by
 have e:((x:Int)*4294967296)=((x*4294967296:Nat):Int):=ae;rw [e,u64_or_nat _ _ ae ae];have:=Nat.shiftLeft_add_eq_or_of_lt (i:=32) (b:=y) ae x;rw [Nat.shiftLeft_eq]at this;rw [<-this];congr 1;omega
theorem or_zero (x:Nat) (hx:x<18446744073709551616):bits BinOp.or IntKind.u64 0 (x:Int)=(x:Int):=by
 have:=u64_or_nat 0 x ae hx;simpa using this
theorem zm {a:Option Addr} {k k' c:Nat} (h:k=k'):Ending.returned (.slice a k c)= .returned (.slice a k' c):=by rw [h]
theorem cL {k:IntKind} {a b:Int} (h:a=b):Ending.returned (.int k a)= .returned (.int k b):=by rw [h]
def iL (n:Nat) (w:World) (e:Ending) (w':World):Prop:= ∃a c,e= .returned (.slice a (len n) c)/\Raw w' a (len n) c n/\Fr w.heap.size a/\Ext w w'
def fV (n m:Nat):Int:=if n<m then-1 else if n=m then 0 else 1
theorem EK (n m:Nat):(n<m/\fV n m= -1)\/(n=m/\fV n m=0)\/(m<n/\fV n m=1):=by
 unfold fV;by_cases h:n<m
 .simp [h]
 .by_cases h':n=m
  .simp [h']
  .simp [h,h'];omega
theorem qQ (l:List Nat): ∀v∈dr l,v.oneCell'=true:=by
 intro v hv;simp only [dr,List.mem_map]at hv;obtain ⟨n,_,rfl⟩:=hv;rfl
theorem Av (l:List Nat) (j:Nat) (v:Value) (h:(dr l)[j]?=some v):j<l.length/\v= .int .u32 (limb l j:Nat):=by
 have hj:j<l.length:=by
  have:=(List.getElem?_eq_some_iff.1 h).1;rwa [ir]at this
 rw [eF _ _ hj]at h;exact ⟨hj,by cases h;rfl⟩
theorem eU.src {w:World} {a:Option Addr} {c:Nat} {l:List Nat} (h:eU w a c l) (h0:0<l.length): ∃ad,a=some ad/\ ∀j v,(dr l)[j]?=some v->w.cell? (ad.add j)=some v:=by
 obtain ⟨b,o,ha⟩:=h.at h0;refine ⟨_,ha,λj v hv=> ?_⟩;obtain ⟨hj,rfl⟩:=Av l j v hv;subst ha;have:=h.cellAt j hj;rw [show(Addr.add ⟨b,o,none⟩ j)=⟨b,o+j,none⟩from by unfold Addr.add;split<;>simp_all];exact this
structure Touch (lo hi:Nat) (w2 w3:World):Prop where
 os:w3.os=w2.os
 tape:w3.tape=w2.tape
 output:w3.output=w2.output
 drawn:w2.drawn<=w3.drawn
 size:w3.heap.size=w2.heap.size
 block: ∀k,k<lo\/hi<=k->w3.heap[k]?=w2.heap[k]?
theorem Touch.refl (lo hi:Nat) (w:World):Touch lo hi w w:=⟨rfl,rfl,rfl,bY,rfl,λ_ _=>rfl⟩
theorem Touch.setCell {lo hi:Nat} {a w:World} (h:Touch lo hi a w) {p:Addr} (h1:lo<=p.block) (h2:p.block<hi) (v:Value):Touch lo hi a (w.setCell p v):=
 ⟨h.os,h.tape,h.output,h.drawn,by rw [<-h.size];simp [World.setCell],λk hk=>by rw [Below.heap_setCell _ _ _ _ ae];exact h.block k hk⟩
theorem Touch.drew {lo hi:Nat} {a w:World} (h:Touch lo hi a w):Touch lo hi a w.drew:=⟨h.os,h.tape,h.output,Nat.le_succ_of_le h.drawn,h.size,h.block⟩
theorem Touch.drewN {lo hi:Nat} {a w:World} (h:Touch lo hi a w) (n:Nat):Touch lo hi a (w.drewN n):=⟨h.os,h.tape,h.output,Nat.le_trans h.drawn (Nat.le_add_right _ _),h.size,h.block⟩
theorem Ext.bt {w W w2 w3:World} (hW:Ext w W) (h:Ext W w2) (t:Touch w.heap.size W.heap.size w2 w3):Ext w w3:=by
 have h2:=hW.trans h;exact ⟨⟨t.os.trans h2.below.os,t.tape.trans h2.below.tape,t.output.trans h2.below.output,by rw [t.size];exact h2.below.size,λk hk=>(t.block k (Or.inl hk)).trans (h2.below.block k hk)⟩,Nat.le_trans h2.drawn t.drawn⟩
theorem wC {lo hi:Nat} {w2 w3:World} (t:Touch lo hi w2 w3) {p:Addr} (hp:p.block<lo\/hi<=p.block):w3.cell? p=w2.cell? p:=by
 unfold World.cell?;rw [t.block _ hp]
theorem eU.bt {lo hi:Nat} {w2 w3:World} {a:Option Addr} {c:Nat} {l:List Nat} (h:eU w2 a c l) (t:Touch lo hi w2 w3) (ha: ∀x,a=some x->x.block<lo\/hi<=x.block):eU w3 a c l:=
 ⟨h.le,h.cap,h.short,h.Kq,h.small,λi hi=>by
   obtain ⟨b,o,ha',hc⟩:=h.cell i hi;exact ⟨b,o,ha',by rw [wC t (p:=⟨b,o+i,none⟩) (ha ⟨b,o,none⟩ ha')];exact hc⟩⟩
theorem Raw.bt {lo hi:Nat} {w2 w3:World} {a:Option Addr} {k c n:Nat} (h:Raw w2 a k c n) (t:Touch lo hi w2 w3) (ha: ∀x,a=some x->x.block<lo\/hi<=x.block):Raw w3 a k c n:=by
 obtain ⟨l,h1,h2,h3⟩:=h;exact ⟨l,h1,h2,h3.bt t ha⟩
theorem Fr.o {lo hi:Nat} {a:Option Addr} (h:Fr hi a): ∀x,a=Option.some x->x.block<lo\/hi<=x.block:=λx e=>Or.inr (h x e)
theorem Touch.one {lo hi b:Nat} (w:World) (h1:lo<=b) (h2:b<hi) (i:Nat) (v:Value):Touch lo hi w (w.setCell ⟨b,i,none⟩ v):=
 (Touch.refl _ _ _).setCell h1 h2 _
theorem Touch.two {lo hi b:Nat} (w:World) (h1:lo<=b) (h2:b<hi) (v0 v1:Value):Touch lo hi w ((w.setCell ⟨b,0,none⟩ v0).setCell ⟨b,1,none⟩ v1):=
 ((Touch.refl _ _ _).setCell h1 h2 _).setCell h1 h2 _
theorem Touch.three {lo hi b:Nat} (w:World) (h1:lo<=b) (h2:b<hi) (v0 v1 v2:Value):Touch lo hi w (((w.setCell ⟨b,0,none⟩ v0).setCell ⟨b,1,none⟩ v1).setCell ⟨b,2,none⟩ v2):=
 (((Touch.refl _ _ _).setCell h1 h2 _).setCell h1 h2 _).setCell h1 h2 _
theorem Touch.trans {lo hi:Nat} {a b c:World} (h:Touch lo hi a b) (k:Touch lo hi b c):Touch lo hi a c:=
 ⟨k.os.trans h.os,k.tape.trans h.tape,k.output.trans h.output,Nat.le_trans h.drawn k.drawn,k.size.trans h.size,λi hi=>(k.block i hi).trans (h.block i hi)⟩
theorem aV (w:World) (T0:TypeId) (l0:List Value): ∃W:World,W=(w.alloc (.cells l0.toArray T0))/\Ext w W/\Hid (W.heap.size=w.heap.size+1)/\aT W (w.heap.size) T0 l0:=by
 exact ⟨_,rfl,ar.alloc _,(show _=_ by simp),aT.alloc _ _ _⟩
theorem dZ (w:World) (T0:TypeId) (l0:List Value) (T1:TypeId) (l1:List Value): ∃W:World,W=((w.alloc (.cells l0.toArray T0)).alloc (.cells l1.toArray T1))/\Ext w W/\Hid (W.heap.size=w.heap.size+2)/\aT W (w.heap.size) T0 l0/\aT W (w.heap.size+1) T1 l1:=by
 obtain ⟨V,hV,x0,z0,a0⟩:=aV w T0 l0;refine ⟨_,rfl,?_⟩;rw [<-hV];have z1:=z0.o;have b:=aT.alloc V T1 l1;rw [z1]at b;exact ⟨x0.alloc _,(show _=_ by simp [z1]),a0.ext (ar.alloc _),b⟩
theorem fC (w:World) (T0:TypeId) (l0:List Value) (T1:TypeId) (l1:List Value) (T2:TypeId) (l2:List Value): ∃W:World,W=(((w.alloc (.cells l0.toArray T0)).alloc (.cells l1.toArray T1)).alloc (.cells l2.toArray T2))/\Ext w W/\Hid (W.heap.size=w.heap.size+3)/\aT W (w.heap.size) T0 l0/\aT W (w.heap.size+1) T1 l1/\aT W (w.heap.size+2) T2 l2:=by
 obtain ⟨V,hV,x0,z0,a0,a1⟩:=dZ w T0 l0 T1 l1;refine ⟨_,rfl,?_⟩;rw [<-hV];have z1:=z0.o;have b:=aT.alloc V T2 l2;rw [z1]at b;exact ⟨x0.alloc _,(show _=_ by simp [z1]),a0.ext (ar.alloc _),a1.ext (ar.alloc _),b⟩
theorem QB (w:World) (T0:TypeId) (l0:List Value) (T1:TypeId) (l1:List Value) (T2:TypeId) (l2:List Value) (T3:TypeId) (l3:List Value): ∃W:World,W=((((w.alloc (.cells l0.toArray T0)).alloc (.cells l1.toArray T1)).alloc (.cells l2.toArray T2)).alloc (.cells l3.toArray T3))/\Ext w W/\Hid (W.heap.size=w.heap.size+4)/\aT W (w.heap.size) T0 l0/\aT W (w.heap.size+1) T1 l1/\aT W (w.heap.size+2) T2 l2/\aT W (w.heap.size+3) T3 l3:=by
 obtain ⟨V,hV,x0,z0,a0,a1,a2⟩:=fC w T0 l0 T1 l1 T2 l2;refine ⟨_,rfl,?_⟩;rw [<-hV];have z1:=z0.o;have b:=aT.alloc V T3 l3;rw [z1]at b;exact ⟨x0.alloc _,(show _=_ by simp [z1]),a0.ext (ar.alloc _),a1.ext (ar.alloc _),a2.ext (ar.alloc _),b⟩
def bp (s:Bool) (n:Nat):Int:=if s then-(n:Int)else n
theorem bF (s:Bool) (n:Nat):(bp s n).natAbs=n:=by unfold bp;cases s<;>simp
def bB (z:Int) (w:World) (e:Ending) (w':World):Prop:= ∃a c,e= .returned (.agg #[.bool (decide (z<0)),.slice a (len z.natAbs) c])/\Raw w' a (len z.natAbs) c z.natAbs/\Fr w.heap.size a/\Ext w w'
theorem bB.bt {z:Int} {w W w2 w3:World} {e:Ending} (h:bB z W e w2) (hW:Ext w W) (t:Touch w.heap.size W.heap.size w2 w3):bB z w e w3:=by
 obtain ⟨a,c,he,hr,hf,hx⟩:=h;exact ⟨a,c,he,hr.bt t hf.o,hf.mono hW.size,hW.bt hx t⟩
def bG (q:Rat) (w:World) (e:Ending) (w':World):Prop:= ∃a c a' c',e= .returned (.agg #[.bool (decide (q.num<0)),.slice a (len q.num.natAbs) c,.slice a' (len q.den) c'])/\
 Raw w' a (len q.num.natAbs) c q.num.natAbs/\Fr w.heap.size a/\Raw w' a' (len q.den) c' q.den/\Fr w.heap.size a'/\Ext w w'
theorem bG.bt {q:Rat} {w W w2 w3:World} {e:Ending} (h:bG q W e w2) (hW:Ext w W) (t:Touch w.heap.size W.heap.size w2 w3):bG q w e w3:=by
 obtain ⟨a,c,a',c',he,hr,hf,pS,hf',hx⟩:=h;exact ⟨a,c,a',c',he,hr.bt t hf.o,hf.mono hW.size,pS.bt t hf'.o,hf'.mono hW.size,hW.bt hx t⟩
theorem oD:len 1=1:=NI aq aq
theorem gu (x:Int) (y:Nat) (h:0<y):(mkRat x y).num.natAbs=x.natAbs/Nat.gcd y x.natAbs:=by
 rw [Rat.num_mkRat,if_neg ae,Int.natAbs_ediv_of_dvd (Int.ofNat_dvd_left.2 (Nat.gcd_dvd_right _ _)),Int.natAbs_natCast]
theorem kV (x:Int) (y:Nat) (h:0<y):(mkRat x y).den=y/Nat.gcd y x.natAbs:=by
 rw [Rat.den_mkRat,if_neg ae]
theorem bG.base {q:Rat} {W w1 w2:World} {e:Ending} (h:bG q w1 e w2) (hx:Ext W w1):bG q W e w2:=by
 obtain ⟨a,c,a',c',he,hr,hf,pS,hf',ox⟩:=h;exact ⟨a,c,a',c',he,hr,hf.mono hx.size,pS,hf'.mono hx.size,hx.trans ox⟩
def uB (q:Rat):Nat:=max (len q.num.natAbs) (len q.den)
theorem m_ (q:Rat):len q.num.natAbs<=uB q:=Nat.le_max_left _ _
theorem na (q:Rat):len q.den<=uB q:=Nat.le_max_right _ _
theorem kO (x:Int) (y:Nat):uB (mkRat x y)<=max (max (len x.natAbs) (len y)) 1:=by
 unfold uB;by_cases h:0<y
 .rw [gu _ _ h,kV _ _ h]
  have h1:=df (Nat.div_le_self x.natAbs (Nat.gcd y x.natAbs));have h2:=df (Nat.div_le_self y (Nat.gcd y x.natAbs));omega
 .obtain rfl:y=0:=ae
  rw [Rat.mkRat_zero];show max (len 0) (len 1)<=_;rw [oC,oD];omega
structure cH where
 s:Bool
 a:Option Addr
 k:Nat
 c:Nat
 b:Option Addr
 j:Nat
 d:Nat
def cH.cells (r:cH):List Value:= [.bool r.s,.slice r.a r.k r.c,.slice r.b r.j r.d]
def jH (w:World) (r:cH) (q:Rat) (L:Nat):Prop:= ∃n m,Raw w r.a r.k r.c n/\Raw w r.b r.j r.d m/\q=mkRat (bp r.s n) m/\len n<=L/\len m<=L
theorem jH.ext {w w':World} {r:cH} {q:Rat} {L:Nat} (h:jH w r q L) (e:Ext w w'):jH w' r q L:=by
 obtain ⟨n,m,h1,h2,h3⟩:=h;exact ⟨n,m,h1.ext e,h2.ext e,h3⟩
theorem jH.mono {w:World} {r:cH} {q:Rat} {L L':Nat} (h:jH w r q L) (hl:L<=L'):jH w r q L':=by
 obtain ⟨n,m,h1,h2,h3,h4,h5⟩:=h;exact ⟨n,m,h1,h2,h3,ae,ae⟩
theorem jH.uB {w:World} {r:cH} {q:Rat} {L:Nat} (h:jH w r q L):uB q<=max L 1:=by
 obtain ⟨n,m,h1,h2,rfl,h4,h5⟩:=h;have:=kO (bp r.s n) m;rw [bF]at this;omega
structure fQ (w:World) (r:cH) (q:Rat) (B:Nat):Prop where
 s:r.s=decide (q.num<0)
 k:r.k=len q.num.natAbs
 j:r.j=len q.den
 num:Raw w r.a r.k r.c q.num.natAbs
 den:Raw w r.b r.j r.d q.den
 fa:Fr B r.a
 fb:Fr B r.b
theorem fQ.ext {w w':World} {r:cH} {q:Rat} {B:Nat} (h:fQ w r q B) (e:Ext w w'):fQ w' r q B:=⟨h.s,h.k,h.j,h.num.ext e,h.den.ext e,h.fa,h.fb⟩
theorem fQ.mono {w:World} {r:cH} {q:Rat} {B B':Nat} (h:fQ w r q B) (e:B'<=B):fQ w r q B':=⟨h.s,h.k,h.j,h.num,h.den,h.fa.mono e,h.fb.mono e⟩
theorem fQ.setCell {w:World} {r:cH} {q:Rat} {B:Nat} (h:fQ w r q B) (p:Addr) (v:Value) (hp:p.block<B):fQ (w.setCell p v) r q B:=
 ⟨h.s,h.k,h.j,h.num.setCell _ _ (h.fa.ne hp),h.den.setCell _ _ (h.fb.ne hp),h.fa,h.fb⟩
theorem Tryz.info_int:(Tryz.prog.info? 3).map (λi=>(i.zero,i.size,i.bytes))=some (some (.int .i64 0),1,8):=ax
def wE (l:List Int):List Value:=l.map (Value.int .i64)
section
variable{P:Program} (w:World)
theorem wF (base:Nat) (t ty e:TypeId) (i:TypeInfo) (z:Value) (size bytes:Nat) (ht:P.underlying t=some (.slice e)) (hi:P.info? e=some i) (hz:i.zero=some z)
 (hsize:i.size=size) (hby:i.bytes=bytes) (hzs:z.cells.size=size) (hsz:0<size)
 (v:Value) (n:Nat) (xs:List Value) (hown:w.ownsRow base e size v n xs)
 (a:Addr) (m c:Nat) (news:List Value) (hl:news.length=m*size) (hnews: ∀j u,news[j]?=some u->w.cell? (a.add j)=some u) (h1: ∀u∈news,u.oneCell'=true)
 (h63:n+m<=maxLen) (hbytes:(n+m)*bytes<=140737488355328) (hbase:base<=w.heap.size):
 ∃v' w',(Builtin.append_ #[t,t] ty #[v,.slice (some a) m c]).run P w= .ok v' w'/\w'.ownsRow base e size v' (n+m) (xs++news)/\w.grownBy w' v.ownBlock/\w.drawn<=w'.drawn:=by
 obtain ⟨v',w',hr,h2,h3,_⟩:=run_append_own (P:=P) w base t ty e i z size bytes ht hi hz hsize hby hzs hsz v n xs hown a m c news hl hnews h1 h63 hbytes hbase;refine ⟨v',w',hr,h2,h3,?_⟩;subst hsize;subst hby;have QC:n+m<=9223372036854775807:=by simp only [maxLen]at h63;omega
 rcases hown.2 with⟨rfl,rfl⟩|⟨g,cap,cur,rfl,hbg,hg,hnc,hcm,hcs,qR⟩
 .have hx:xs= []:=List.eq_nil_of_length_eq_zero (by simpa using hown.1)
  subst hx;by_cases hm:m=0
  .subst hm
   have hn:news= []:=List.eq_nil_of_length_eq_zero (by simpa using hl);subst hn
   have pS:(Builtin.append_ #[t,t] ty #[.slice none 0 0,.slice (some a) 0 c]).run P w= .ok (.slice none 0 0) w:=by
    simp [Builtin.append_,run_underlying ht,sizeOf,typeInfo,hi,Builtin.lenOf,Builtin.firstCells,loadCells,loadCellsFrom]
   rw [pS]at hr;cases hr;exact bY
  .have pS:=run_append_nil (P:=P) w t ty e i z ht hi hz a m c news hl hnews ae ae (by have hb:=hbytes;simp only [Nat.zero_add]at hb;omega)
   rw [pS]at hr;cases hr;exact Nat.le_succ _
 .by_cases hroom:n+m<=cap
  .have Kr:n*i.size+news.length<=cur.size:=by rw [hl,hcs,<-Nat.add_mul];exact Nat.mul_le_mul_right _ hroom
   have pS:=run_append_room (P:=P) w t ty e i ht hi g n cap cur hg a m c news hl hnews h1 hroom Kr;rw [pS]at hr;cases hr;exact bY
  .have holds: ∀j u,xs[j]?=some u->w.cell? ((⟨g,0,none⟩:Addr).add j)=some u:=hown.cells (g:=g) rfl
   have pS:=run_append_grow (P:=P) w t ty e i z ht hi hz ⟨g,0,none⟩ n cap xs hown.1 holds a m c news hl hnews ae ae (growslice_fits ae hbytes);rw [pS]at hr;cases hr;exact Nat.le_succ _
theorem ju {ops:Array Oper} {rest:List Oper} {o:Oper} {a:Act} {Q:Exit->Act->World->Prop} (hgd:o.guard=none) (s x:Operand) (t:TypeId)
 (ho:o.op= .call {callee:= .builtin .append,args:= #[s,x],argTypes:= #[t,t]})
 (base:Nat) (e:TypeId) (z:Value) (size bytes:Nat) (ht:P.underlying t=some (.slice e)) (iR:(P.info? e).map (λi=>(i.zero,i.size,i.bytes))=some (some z,size,bytes)) (hzs:z.cells.size=size) (hsz:0<size)
 (v:Value) (n:Nat) (xs:List Value) (hs:a.eval s=v) (hown:w.ownsRow base e size v n xs)
 (xa:Option Addr) (m c:Nat) (news:List Value) (hx:a.eval x= .slice xa m c) (hl:news.length=m*size) (hnews:0<m-> ∃ad,xa=some ad/\ ∀j u,news[j]?=some u->w.cell? (ad.add j)=some u) (h1: ∀u∈news,u.oneCell'=true)
 (hnil:xa=none->m=0/\c=0)
 (h63:n+m<=1200000000000) (hbytes:bytes<=100) (hbase:base<=w.heap.size)
 (h: ∀v' w',Hid (w'.ownsRow base e size v' (n+m) (xs++news))->Hid (∀a0,Ext a0 w->a0.heap.size<=base->Ext a0 w')->Hid (∀k,k<w.heap.size->some k≠v.ownBlock->w'.heap[k]?=w.heap[k]?)->Hid (w.heap.size<=w'.heap.size)->wpList P ops Q rest (a.put o.dst v') w'):wpList P ops Q (o::rest) a w:=by
 obtain ⟨i,hi,hz,hsize,hby⟩:=info_parts iR;have hlt:=hown.lt;have hb:(n+m)*bytes<=140737488355328:=Nat.le_trans (Nat.mul_le_mul h63 hbytes) aq;have vg:n+m<=maxLen:=by unfold maxLen;omega
 cases xa with
 |none=>
  obtain ⟨rfl,rfl⟩:=hnil rfl;have hn:news= []:=List.eq_nil_of_length_eq_zero (by simpa using hl);subst hn;refine wpList_append_own_none hgd s x t ho base e i size ht hi v n xs hs hown hx ?_;exact h v w (ah (by simpa using hown)) (λ_ h _=>h) (λ_ _ _=>rfl) bY
 |some ad=>
  have nc: ∀j u,news[j]?=some u->w.cell? (ad.add j)=some u:=by
   intro j u hu;by_cases hm:0<m
   .obtain ⟨ZJ,e',hh⟩:=hnews hm;cases e';exact hh j u hu
   .have:news= []:=List.eq_nil_of_length_eq_zero (by rw [hl];have:m=0:=ae
                                                     simp [this])
    rw [this]at hu;simp at hu
  refine wpList_plain hgd λK hK=> ?_;obtain ⟨v',w',hr,h2,h3,h4⟩:=wF (P:=P) w base t o.type e i z size bytes ht hi hz hsize hby hzs hsz v n xs hown ad m c news hl nc h1 vg hb hbase;unfold Oper.wp execOp;simp only [ho,resolve,invoke,builtin,Sem.run_bind,Sem.run_pure,Result.andThen_ok,List.map_toArray,List.map_cons,List.map_nil,hs,hx,hr];refine hK _ _ (h v' w' h2 (λa0 ha hb0=>⟨ha.below.trans ⟨h3.os,h3.tape,h3.output,h3.size,λk hk=>h3.block k (bA ha.size) (λe'=>bA (hlt k e'.symm))⟩,Nat.le_trans ha.drawn h4⟩) h3.block h3.size)
end
theorem yA {w:World} {base:Nat} {e:TypeId} {v:Value} {n:Nat} {l:List Nat} (h:w.ownsRow base e 1 v n (dr l)) (hs:Small l) (hc:l.length<=1099511627776):
 ∃a c,v= .slice a n c/\l.length=n/\eU w a c l/\Fr base a:=by
 obtain ⟨h1,h2⟩:=h;rw [ir,Nat.mul_one]at h1;rcases h2 with⟨rfl,rfl⟩|⟨g,cap,cur,rfl,hb,hg,hn,dS,hcs,qR⟩
 .have:l= []:=List.eq_nil_of_length_eq_zero h1
  subst this;exact ⟨none,0,rfl,rfl,eU.nil _,Fr.none _⟩
 .refine ⟨some ⟨g,0,none⟩,cap,rfl,h1,⟨ae,by unfold maxLen at dS;omega,hc,(λe=>by cases e),hs,λi hi=>⟨g,0,rfl,?_⟩⟩,Fr.some hb⟩
  rw [Nat.zero_add]
  have:cur.toList[i]?=some (.int .u32 (limb l i:Nat)):=by
   have h3:(cur.toList.take (n*1))[i]?=(dr l)[i]?:=by rw [qR]
   rw [eF _ _ hi,List.getElem?_take,if_pos ae]at h3;exact h3
  simp only [World.cell?,hg];simpa using this
theorem mm (w:World) (base:Nat) (e:TypeId) (g:Nat) (hb:base<=g) (hg:aT w g e []):w.ownsRow base e 1 (.slice (some ⟨g,0,none⟩) 0 0) 0 []:=
 ⟨rfl,.inr ⟨g,0,#[],rfl,hb,hg,bY,aZ,rfl,rfl⟩⟩
theorem bB.base {z:Int} {W w1 w2:World} {e:Ending} (h:bB z w1 e w2) (hx:Ext W w1):bB z W e w2:=by
 obtain ⟨a,c,he,hr,hf,ox⟩:=h;exact ⟨a,c,he,hr,hf.mono hx.size,hx.trans ox⟩
def eG (s:Bool) (n m:Nat) (w:World) (e:Ending) (w':World):Prop:= ∃a c a' c',e= .returned (.agg #[.bool s,.slice a (len n) c,.slice a' (len m) c'])/\Raw w' a (len n) c n/\Fr w.heap.size a/\Raw w' a' (len m) c' m/\Fr w.heap.size a'/\Ext w w'
def gV (s:Bool) (n:Nat) (w:World) (e:Ending) (w':World):Prop:= ∃a c,e= .returned (.agg #[.bool s,.slice a (len n) c])/\Raw w' a (len n) c n/\Fr w.heap.size a/\Ext w w'
theorem bB.intOf {z:Int} {w w':World} {e:Ending} (h:bB z w e w'):gV (decide (z<0)) z.natAbs w e w':=h
theorem eG.base {s:Bool} {n m:Nat} {W w1 w2:World} {e:Ending} (h:eG s n m w1 e w2) (hx:Ext W w1):eG s n m W e w2:=by
 obtain ⟨a,c,a',c',he,hr,hf,pS,hf',ox⟩:=h;exact ⟨a,c,a',c',he,hr,hf.mono hx.size,pS,hf'.mono hx.size,hx.trans ox⟩
def NL (s:Bool) (n m:Nat) (w:World) (e:Ending) (w':World):Prop:= ∃a c a' c',e= .returned (.tuple #[.agg #[.bool s,.slice a (len n) c,.slice a' (len m) c'],.bool true])/\Raw w' a (len n) c n/\Fr w.heap.size a/\Raw w' a' (len m) c' m/\Fr w.heap.size a'/\Ext w w'
theorem eG.ok {s:Bool} {n m:Nat} {w w':World} {a a':Option Addr} {c c':Nat} (h:eG s n m w (.returned (.agg #[.bool s,.slice a (len n) c,.slice a' (len m) c'])) w'):NL s n m w (.returned (.tuple #[.agg #[.bool s,.slice a (len n) c,.slice a' (len m) c'],.bool true])) w':=by
 obtain ⟨a1,c1,a2,c2,he,hr,hf,pS,hf',hx⟩:=h;cases he
 exact ⟨_,_,_,_,rfl,hr,hf,pS,hf',hx⟩
theorem eG.bt {s:Bool} {n m:Nat} {w W w2 w3:World} {e:Ending} (h:eG s n m W e w2) (hW:Ext w W) (t:Touch w.heap.size W.heap.size w2 w3):eG s n m w e w3:=by
 obtain ⟨a,c,a',c',he,hr,hf,pS,hf',hx⟩:=h;exact ⟨a,c,a',c',he,hr.bt t hf.o,hf.mono hW.size,pS.bt t hf'.o,hf'.mono hW.size,hW.bt hx t⟩
theorem gV.bt {s:Bool} {n:Nat} {w W w2 w3:World} {e:Ending} (h:gV s n W e w2) (hW:Ext w W) (t:Touch w.heap.size W.heap.size w2 w3):gV s n w e w3:=by
 obtain ⟨a,c,he,hr,hf,hx⟩:=h;exact ⟨a,c,he,hr.bt t hf.o,hf.mono hW.size,hW.bt hx t⟩
theorem gV.base {s:Bool} {n:Nat} {W w1 w2:World} {e:Ending} (h:gV s n w1 e w2) (hx:Ext W w1):gV s n W e w2:=by
 obtain ⟨a,c,he,hr,hf,ox⟩:=h;exact ⟨a,c,he,hr,hf.mono hx.size,hx.trans ox⟩
def Ie (v n:Int):Int:=(v % 18446744073709551616) % n
theorem Ks (w:World) (v n:Int) (_hv1: -9223372036854775808<=v) (_hv2:v<9223372036854775808) (hn:0<n) (Ig:n<1000000):
 Calls prog 52 #[.int .i64 v,.int .i64 n] w λe w'=>e= .returned (.int .i64 (Ie v n))/\w=w':=by
 go_enter func52,ntmps52
 go_wp2
 go_ret;refine ⟨cL ?_,rfl⟩
 have hw:IntKind.u64.wrap v=v % 18446744073709551616:=by
  simp [IntKind.wrap,IntKind.signed,IntKind.bits]
 have h0:0<=v % 18446744073709551616:=Int.emod_nonneg _ ae;rw [hw,Int.tmod_eq_emod_of_nonneg h0];have a:=Int.emod_nonneg (v % 18446744073709551616) (show n≠0 by omega);have b:=Int.emod_lt_of_pos (v % 18446744073709551616) hn;unfold Ie;generalize v % 18446744073709551616 % n=z at*;unfold wrap64;omega
def oF (w:World) (a:Option Addr) (l:List Int):Prop:= ∃b o,a=some ⟨b,o,none⟩/\ ∀i (hi:i<l.length),w.cell? ⟨b,o+i,none⟩=some (.int .i64 l[i])
theorem oF.ext {w w':World} {a:Option Addr} {l:List Int} (h:oF w a l) (hX:Ext w w'):oF w' a l:=by
 obtain ⟨b,o,rfl,hc⟩:=h;exact ⟨b,o,rfl,λi hi=>(hX.cell (cY (hc i hi))).trans (hc i hi)⟩
section
variable{P:Program} (w:World)
theorem iT (base:Nat) (t ty e:TypeId) (i:TypeInfo) (z:Value) (size bytes:Nat) (ht:P.underlying t=some (.slice e)) (hi:P.info? e=some i) (hz:i.zero=some z)
 (hsize:i.size=size) (hby:i.bytes=bytes) (hzs:z.cells.size=size) (hsz:0<size)
 (v:Value) (n:Nat) (xs:List Value) (hown:w.ownsRow base e size v n xs)
 (a:Addr) (m c:Nat) (news:List Value) (hl:news.length=m*size) (hnews: ∀j u,news[j]?=some u->w.cell? (a.add j)=some u) (h1: ∀u∈news,u.oneCell'=true)
 (h63:n+m<=maxLen) (hbytes:(n+m)*bytes<=140737488355328) (hbase:base<=w.heap.size):
 ∃v' w',(Builtin.append_ #[t,t] ty #[v,.slice (some a) m c]).run P w= .ok v' w'/\w'.ownsRow base e size v' (n+m) (xs++news)/\w.grownBy w' v.ownBlock/\w.drawn<=w'.drawn/\(v'.ownBlock=v.ownBlock\/ ∃g,v'.ownBlock=some g/\w.heap.size<=g):=by
 obtain ⟨v',w',hr,h2,h3,_⟩:=run_append_own (P:=P) w base t ty e i z size bytes ht hi hz hsize hby hzs hsz v n xs hown a m c news hl hnews h1 h63 hbytes hbase;refine ⟨v',w',hr,h2,h3,?_⟩;subst hsize;subst hby;have QC:n+m<=9223372036854775807:=by simp only [maxLen]at h63;omega
 rcases hown.2 with⟨rfl,rfl⟩|⟨g,cap,cur,rfl,hbg,hg,hnc,hcm,hcs,qR⟩
 .have hx:xs= []:=List.eq_nil_of_length_eq_zero (by simpa using hown.1)
  subst hx;by_cases hm:m=0
  .subst hm
   have hn:news= []:=List.eq_nil_of_length_eq_zero (by simpa using hl);subst hn
   have pS:(Builtin.append_ #[t,t] ty #[.slice none 0 0,.slice (some a) 0 c]).run P w= .ok (.slice none 0 0) w:=by
    simp [Builtin.append_,run_underlying ht,sizeOf,typeInfo,hi,Builtin.lenOf,Builtin.firstCells,loadCells,loadCellsFrom]
   rw [pS]at hr;cases hr;exact ⟨bY,.inl rfl⟩
  .have pS:=run_append_nil (P:=P) w t ty e i z ht hi hz a m c news hl hnews ae ae (by have hb:=hbytes;simp only [Nat.zero_add]at hb;omega)
   rw [pS]at hr;cases hr;exact ⟨Nat.le_succ _,.inr ⟨_,rfl,bY⟩⟩
 .by_cases hroom:n+m<=cap
  .have Kr:n*i.size+news.length<=cur.size:=by rw [hl,hcs,<-Nat.add_mul];exact Nat.mul_le_mul_right _ hroom
   have pS:=run_append_room (P:=P) w t ty e i ht hi g n cap cur hg a m c news hl hnews h1 hroom Kr;rw [pS]at hr;cases hr;exact ⟨bY,.inl rfl⟩
  .have holds: ∀j u,xs[j]?=some u->w.cell? ((⟨g,0,none⟩:Addr).add j)=some u:=hown.cells (g:=g) rfl
   have pS:=run_append_grow (P:=P) w t ty e i z ht hi hz ⟨g,0,none⟩ n cap xs hown.1 holds a m c news hl hnews ae ae (growslice_fits ae hbytes);rw [pS]at hr;cases hr;exact ⟨Nat.le_succ _,.inr ⟨_,rfl,bY⟩⟩
theorem bC {ops:Array Oper} {rest:List Oper} {o:Oper} {a:Act} {Q:Exit->Act->World->Prop} (hgd:o.guard=none) (s x:Operand) (t:TypeId)
 (ho:o.op= .call {callee:= .builtin .append,args:= #[s,x],argTypes:= #[t,t]})
 (base:Nat) (e:TypeId) (z:Value) (size bytes:Nat) (ht:P.underlying t=some (.slice e)) (iR:(P.info? e).map (λi=>(i.zero,i.size,i.bytes))=some (some z,size,bytes)) (hzs:z.cells.size=size) (hsz:0<size)
 (v:Value) (n:Nat) (xs:List Value) (hs:a.eval s=v) (hown:w.ownsRow base e size v n xs)
 (xa:Option Addr) (m c:Nat) (news:List Value) (hx:a.eval x= .slice xa m c) (hl:news.length=m*size) (hnews:0<m-> ∃ad,xa=some ad/\ ∀j u,news[j]?=some u->w.cell? (ad.add j)=some u) (h1: ∀u∈news,u.oneCell'=true)
 (hnil:xa=none->m=0/\c=0)
 (h63:n+m<=1200000000000) (hbytes:bytes<=100) (hbase:base<=w.heap.size)
 (h: ∀v' w',Hid (w'.ownsRow base e size v' (n+m) (xs++news))->Hid (∀a0,Ext a0 w->a0.heap.size<=base->Ext a0 w')->Hid (∀k,k<w.heap.size->some k≠v.ownBlock->w'.heap[k]?=w.heap[k]?)->Hid (w.heap.size<=w'.heap.size)->Hid (v'.ownBlock=v.ownBlock\/ ∃g,v'.ownBlock=some g/\w.heap.size<=g)->wpList P ops Q rest (a.put o.dst v') w'):wpList P ops Q (o::rest) a w:=by
 obtain ⟨i,hi,hz,hsize,hby⟩:=info_parts iR;have hlt:=hown.lt;have hb:(n+m)*bytes<=140737488355328:=Nat.le_trans (Nat.mul_le_mul h63 hbytes) aq;have vg:n+m<=maxLen:=by unfold maxLen;omega
 cases xa with
 |none=>
  obtain ⟨rfl,rfl⟩:=hnil rfl;have hn:news= []:=List.eq_nil_of_length_eq_zero (by simpa using hl);subst hn;refine wpList_append_own_none hgd s x t ho base e i size ht hi v n xs hs hown hx ?_;exact h v w (ah (by simpa using hown)) (λ_ h _=>h) (λ_ _ _=>rfl) bY (.inl rfl)
 |some ad=>
  have nc: ∀j u,news[j]?=some u->w.cell? (ad.add j)=some u:=by
   intro j u hu;by_cases hm:0<m
   .obtain ⟨ZJ,e',hh⟩:=hnews hm;cases e';exact hh j u hu
   .have:news= []:=List.eq_nil_of_length_eq_zero (by rw [hl];have:m=0:=ae
                                                     simp [this])
    rw [this]at hu;simp at hu
  refine wpList_plain hgd λK hK=> ?_;obtain ⟨v',w',hr,h2,h3,h4,h5⟩:=iT (P:=P) w base t o.type e i z size bytes ht hi hz hsize hby hzs hsz v n xs hown ad m c news hl nc h1 vg hb hbase;unfold Oper.wp execOp;simp only [ho,resolve,invoke,builtin,Sem.run_bind,Sem.run_pure,Result.andThen_ok,List.map_toArray,List.map_cons,List.map_nil,hs,hx,hr];refine hK _ _ (h v' w' h2 (λa0 ha hb0=>⟨ha.below.trans ⟨h3.os,h3.tape,h3.output,h3.size,λk hk=>h3.block k (bA ha.size) (λe'=>bA (hlt k e'.symm))⟩,Nat.le_trans ha.drawn h4⟩) h3.block h3.size h5)
end
structure aS (w:World) (a:Option Addr) (c:Nat) (xs:List Int):Prop where
 le:xs.length<=c
 cap:c<=9223372036854775807
 cell: ∀i (h:i<xs.length),∃b o,a=some ⟨b,o,none⟩/\w.cell? ⟨b,o+i,none⟩=some (.int .i64 xs[i])
 T4: ∀i (h:i<xs.length),-9223372036854775808<=xs[i]/\xs[i]<9223372036854775808
theorem aS.ext {w w':World} {a:Option Addr} {c:Nat} {xs:List Int} (h:aS w a c xs) (e:Ext w w'):aS w' a c xs:=
 ⟨h.le,h.cap,λi hi=>by obtain ⟨b,o,ha,hc⟩:=h.cell i hi;exact ⟨b,o,ha,aC e hc⟩,h.T4⟩
theorem EL (v n:Int) (hn:0<n):0<=Ie v n/\Ie v n<n:=
 ⟨Int.emod_nonneg _ ae,Int.emod_lt_of_pos _ hn⟩
theorem bZ {w w':World} {base:Nat} {e:TypeId} {s:Nat} {v:Value} {n:Nat} {xs:List Value} (h:w.ownsRow base e s v n xs) (hX:Ext w w'):w'.ownsRow base e s v n xs:=by
 obtain ⟨h1,h2⟩:=h;refine ⟨h1,?_⟩;rcases h2 with h2|⟨g,cap,cur,hv,hb,hg,hr⟩
 .exact .inl h2
 .refine .inr ⟨g,cap,cur,hv,hb,?_,hr⟩
  rw [hX.below.block g (Array.getElem?_eq_some_iff.1 hg).1];exact hg
theorem Raw.lt {w:World} {a:Option Addr} {k c n:Nat} (h:Raw w a k c n) (hk:0<k): ∀x,a=some x->x.block<w.heap.size:=by
 intro x hx;obtain ⟨l,e1,e2,e3⟩:=h;obtain ⟨b',o,ha,hc⟩:=e3.cell 0 ae;have:=cY hc;rw [hx]at ha;cases ha
 exact this
theorem aS.at {w:World} {a:Option Addr} {c:Nat} {xs:List Int} (h:aS w a c xs) (h0:0<xs.length): ∃b o,a=some ⟨b,o,none⟩:=by
 obtain ⟨b,o,ha,_⟩:=h.cell 0 h0;exact ⟨b,o,ha⟩
theorem dH (w:World) (T:TypeId) (vs:List Value): ∀j u,vs[j]?=some u->(w.alloc (.cells vs.toArray T)).cell? (Addr.add ⟨w.heap.size,0,none⟩ j)=some u:=by
 intro j u hu;rw [show(Addr.add ⟨w.heap.size,0,none⟩ j)=⟨w.heap.size,0+j,none⟩from by unfold Addr.add;split<;>simp_all,Nat.zero_add,(aT.alloc w T vs).cell];exact hu
theorem fQ.short {w:World} {r:cH} {q:Rat} {B L:Nat} (h:fQ w r q B) (hl:uB q<=L):r.k<=L/\r.j<=L:=by
 have h1:=m_ q;have h2:=na q;rw [h.k,h.j];omega
open Go
section
variable{P:Program} {ops:Array Oper} {Q:Exit->Act->World->Prop} {md:Region.Mode} {S:World->Prop} {Z:Nat->Bool}
def Aw (md:Region.Mode) (ops:Array Oper) (Z:Nat->Bool) (i:Nat):Bool:=
 (List.range ops.size).all λj=> !Z j||(match ops[j]? with|some o=>o.after.toList.any (λe=>Region.binds md e&&e.on==i)|none=>true)
theorem Cv {i:Nat} (h:Aw md ops Z i=true): ∀j oj,ops[j]?=some oj->Z j=true-> ∃e∈oj.after,Region.binds md e=true/\e.on=i:=by
 intro j oj hj hz;have hl:j<ops.size:=(Array.getElem?_eq_some_iff.1 hj).1;have h1:=List.all_eq_true.1 h j (List.mem_range.2 hl);rw [hz,hj]at h1;simp only [Bool.not_true,Bool.false_or]at h1;obtain ⟨e,he,h2⟩:=List.any_eq_true.1 h1;simp only [Bool.and_eq_true,beq_iff_eq]at h2;exact ⟨e,Array.mem_toList_iff.1 he,h2.1,h2.2⟩
theorem _root_.Go.Shut.o {p:Prop} (h:Go.Shut p):p:=h
end
open Go.Maps Go.ChangeMaps Go.MapKept
def b_ (k:Int):Prop:= -9223372036854775808<=k/\k<9223372036854775808
theorem b_.wf {k:Int} (h:b_ k):(Lit.int .i64 k).wf=true:=by
 obtain ⟨h1,h2⟩:=h;simp [Lit.wf,IntKind.min,IntKind.max,IntKind.signed,IntKind.bits];omega
def qT (w:World) (b n:Nat) (K:Int->Prop) (f:Int->Int):Prop:=
 ∃D:DataW Unit,w.ownsMap prog 3 (plainElem prog 3) b n D/\(∀k,(Maps.has D (.int .i64 k)=true↔K k))/\ ∀k,D.atKey (.int .i64 k) (.lit (.int .i64 0))= .lit (.int .i64 (f k))
theorem qT.lt {w:World} {b n:Nat} {K:Int->Prop} {f:Int->Int} (h:qT w b n K f):b<w.heap.size:=by obtain ⟨D,h1,_⟩:=h;exact h1.lt
theorem qT.same {w w':World} {b n:Nat} {K:Int->Prop} {f:Int->Int} (h:qT w b n K f) (e:w'.heap[b]?=w.heap[b]?):qT w' b n K f:=by
 obtain ⟨D,⟨es,clock,hb,r⟩,h2⟩:=h;exact ⟨D,⟨es,clock,by rw [e];exact hb,r⟩,h2⟩
theorem qT.ext {w w':World} {b n:Nat} {K:Int->Prop} {f:Int->Int} (h:qT w b n K f) (e:Ext w w'):qT w' b n K f:=h.same (e.below.block b h.lt)
theorem qT.setCell {w:World} {b n:Nat} {K:Int->Prop} {f:Int->Int} (h:qT w b n K f) (p:Addr) (v:Value) (hp:b≠p.block):qT (w.setCell p v) b n K f:=h.same (Below.heap_setCell _ _ _ _ ae)
def lO (w w':World):Prop:= ∀p v,w.cell? p=some v->w'.cell? p=some v
theorem lO.refl (w:World):lO w w:=λ_ _ h=>h
theorem lO.trans {a b c:World} (h:lO a b) (k:lO b c):lO a c:=λp v e=>k p v (h p v e)
theorem Ext.keeps {w w':World} (h:Ext w w'):lO w w':=λ_ _ e=>aC h e
theorem qT.NM {w:World} {b n:Nat} {K:Int->Prop} {f:Int->Int} (h:qT w b n K f) {p:Addr} {v:Value} (e:w.cell? p=some v):p.block≠b:=by
 obtain ⟨D,⟨es,clock,hb,_⟩,_⟩:=h;intro hp;unfold World.cell? at e;rw [hp,hb]at e;simp at e
theorem eU.keeps {w w':World} {a:Option Addr} {c:Nat} {l:List Nat} (h:eU w a c l) (k:lO w w'):eU w' a c l:=
 ⟨h.le,h.cap,h.short,h.Kq,h.small,λi hi=>by obtain ⟨b,o,ha,hc⟩:=h.cell i hi;exact ⟨b,o,ha,k _ _ hc⟩⟩
theorem Raw.keeps {w w':World} {a:Option Addr} {k c n:Nat} (h:Raw w a k c n) (e:lO w w'):Raw w' a k c n:=by
 obtain ⟨l,h1,h2,h3⟩:=h;exact ⟨l,h1,h2,h3.keeps e⟩
theorem jH.keeps {w w':World} {r:cH} {q:Rat} {L:Nat} (h:jH w r q L) (e:lO w w'):jH w' r q L:=by
 obtain ⟨n,m,h1,h2,h3⟩:=h;exact ⟨n,m,h1.keeps e,h2.keeps e,h3⟩
theorem fQ.keeps {w w':World} {r:cH} {q:Rat} {B:Nat} (h:fQ w r q B) (e:lO w w'):fQ w' r q B:=⟨h.s,h.k,h.j,h.num.keeps e,h.den.keeps e,h.fa,h.fb⟩
theorem aS.keeps {w w':World} {a:Option Addr} {c:Nat} {xs:List Int} (h:aS w a c xs) (e:lO w w'):aS w' a c xs:=
 ⟨h.le,h.cap,λi hi=>by obtain ⟨b,o,ha,hc⟩:=h.cell i hi;exact ⟨b,o,ha,e _ _ hc⟩,h.T4⟩
structure aB (b:Nat) (w w':World):Prop where
 os:w'.os=w.os
 tape:w'.tape=w.tape
 output:w'.output=w.output
 drawn:w.drawn<=w'.drawn
 size:w.heap.size<=w'.heap.size
 block: ∀k,k<w.heap.size->k≠b->w'.heap[k]?=w.heap[k]?
theorem aB.refl (b:Nat) (w:World):aB b w w:=⟨rfl,rfl,rfl,bY,bY,λ_ _ _=>rfl⟩
theorem Ext.but {w w':World} (h:Ext w w') (b:Nat):aB b w w':=⟨h.below.os,h.below.tape,h.below.output,h.drawn,h.size,λk hk _=>h.below.block k hk⟩
theorem aB.trans {b:Nat} {w w1 w2:World} (h:aB b w w1) (k:aB b w1 w2):aB b w w2:=
 ⟨k.os.trans h.os,k.tape.trans h.tape,k.output.trans h.output,Nat.le_trans h.drawn k.drawn,Nat.le_trans h.size k.size,λx hx hb=>by rw [k.block x (Nat.lt_of_lt_of_le hx h.size) hb];exact h.block x hx hb⟩
theorem aB.ext {b:Nat} {w0 w w':World} (k:aB b w w') (h:Ext w0 w) (hb:w0.heap.size<=b):Ext w0 w':=
 ⟨⟨k.os.trans h.below.os,k.tape.trans h.below.tape,k.output.trans h.below.output,Nat.le_trans h.size k.size,λx hx=>by rw [k.block x (Nat.lt_of_lt_of_le hx h.size) ae];exact h.below.block x hx⟩,Nat.le_trans h.drawn k.drawn⟩
theorem aB.setCell {b:Nat} {w w':World} (h:aB b w w') {p:Addr} (hp:w.heap.size<=p.block) (v:Value):aB b w (w'.setCell p v):=
 ⟨h.os,h.tape,h.output,h.drawn,by simpa [World.setCell]using h.size,λk hk hb=>by rw [Below.heap_setCell _ _ _ _ ae];exact h.block k hk hb⟩
theorem aB.keeps {b n:Nat} {w w':World} {K:Int->Prop} {f:Int->Int} (h:aB b w w') (hm:qT w b n K f):lO w w':=by
 intro p v e;have h1:=hm.NM e;have h2:=cY e;unfold World.cell? at*;rw [h.block _ h2 h1];exact e
def gw (l:List Int) (i:Nat):Int:=l[i]?.getD 0
theorem fo {l:List Int} {i:Nat} (h:i<l.length):gw l i=l[i]:=by unfold gw;rw [List.getElem?_eq_getElem h];rfl
def Ih (Z:Nat->Bool) (ls:Array Bool):Prop:= ∀j,Z j=true->ls.getD j false=false
def uC (Z:Nat->Bool) (ls:Array Bool):Bool:=(List.range ls.size).any λj=>Z j&&ls.getD j false
theorem GJ {Z:Nat->Bool} {ls:Array Bool} {j:Nat} (h:Ih Z (ls.setIfInBounds j true)):Ih Z ls:=by
 intro k hk;have h1:=h k hk;by_cases hjk:j=k
 .subst hjk
  by_cases hl:j<ls.size
  .simp [Array.getD,hl]at h1
  .simp [Array.getD,hl]
 .rw [getD_set_ne false hjk]at h1;exact h1
theorem Cw {Z:Nat->Bool} {ls:Array Bool} {j:Nat} (h:Ih Z ls) (hj:Z j=false):Ih Z (ls.setIfInBounds j true):=by
 intro k hk;by_cases hjk:j=k
 .subst hjk;rw [hk]at hj;cases hj
 .rw [getD_set_ne false hjk];exact h k hk
theorem GK {Z:Nat->Bool} {ls:Array Bool} (h:uC Z ls=true): ¬Ih Z ls:=by
 intro hn;obtain ⟨j,_,h2⟩:=List.any_eq_true.1 h;rw [Bool.and_eq_true]at h2;rw [hn j h2.1]at h2;exact absurd h2.2 aq
section
variable{P:Program} {ops:Array Oper} {Q:Exit->Act->World->Prop} {md:Region.Mode} {S R:World->Prop} {Z:Nat->Bool}
def eV (P:Program) (md:Region.Mode) (ops:Array Oper) (Q:Exit->Act->World->Prop) (S R:World->Prop) (Z:Nat->Bool):Nat->Array Bool->Act->World->Prop
 |0,ls,a,w=>Region.ready md ops ls= []/\Q .normal a w
 |n+1,ls,a,w=>(Region.ready md ops ls= []->Q .normal a w)/\
  ∀i∈Region.ready md ops ls,wpOp P ops Q i (λa' w'=>S w'/\(Ih Z (ls.setIfInBounds i true)->R w')/\eV P md ops Q S R Z n (ls.setIfInBounds i true) a' w') a w
theorem ng: ∀(n:Nat) (ls:Array Bool) (a:Act) (w:World),eV P md ops Q S R Z n ls a w->wpAny P md ops Q n ls a w
 |0,_,_,_,h=>h
 |n+1,_,_,_,h=>⟨h.1,λi hi=>wpOp_mono (λa' w' h'=>ng n _ a' w' h'.2.2) (h.2 i hi)⟩
theorem qU {T:World->Prop} {i:Nat} {oi:Oper} {v:Value} (hi:ops[i]?=some oi) (T5:Z i=false) (T7: ∀(j:Nat) (o:Oper) cs b,ops[j]?=some o->o.op≠ .select cs b)
 (hQ: ∀c a w,Q (.panic c) (a.put oi.dst v) w->Q (.panic c) a w)
 (hT:(∀w,S w->T w)\/((∀w,S w->R w->T w)/\ ∀j oj,ops[j]?=some oj->Z j=true-> ∃e∈oj.after,Region.binds md e=true/\e.on=i)):
 ∀(n:Nat) (ls:Array Bool) (a:Act) (w:World),
  (∀j oj,ops[j]?=some oj->j≠i->ls.getD j true=false->(∀e∈oj.after,Region.binds md e=true->e.on≠i)->oi.apart ops oj=true)->
  i∈Region.ready md ops ls->YieldsIf P ops T oi v a->S w->(Ih Z ls->R w)->((∀w,S w->T w)\/Ih Z ls)->
  eV P md ops Q S R Z n (ls.setIfInBounds i true) (a.put oi.dst v) w->eV P md ops Q S R Z (n+1) ls a w:=by
 have now: ∀(ls:Array Bool) (w:World),S w->(Ih Z ls->R w)->((∀w,S w->T w)\/Ih Z ls)->T w:=by
  intro ls w hS hR hn;rcases hn with h|h
  .exact h w hS
  .rcases hT with h'|h'
   .exact h' w hS
   .exact h'.1 w hS (hR h)
 intro n;induction n with
 |zero=>
  intro ls a w _ hr hy hS hR hn H;refine ⟨λh=>(by rw [h]at hr;cases hr),λj hj=> ?_⟩;by_cases vh:j=i
  .subst vh;exact hy.wpOp hi (now ls w hS hR hn) ⟨hS,λh=>hR (GJ h),H⟩
  .have:=ready_mono hj vh
   rw [H.1]at this;cases this
 |succ n ih=>
  intro ls a w Pt hr hy hS hR hn H;refine ⟨λh=>(by rw [h]at hr;cases hr),λj hj=> ?_⟩;by_cases vh:j=i
  .subst vh;exact hy.wpOp hi (now ls w hS hR hn) ⟨hS,λh=>hR (GJ h),H⟩
  .have h1:=H.2 j (ready_mono hj vh)
   obtain ⟨T8,oj,Yj,hall⟩:=mem_ready.1 hj
   have T9: ∀e∈oj.after,Region.binds md e=true->e.on≠i:=λe he hb heq=>by
    have h1:=hall e he hb;have h0:=(mem_ready.1 hr).1;rw [heq]at h1;rcases Nat.lt_or_ge i ls.size with h'|h'
    .simp [h']at h0 h1;rw [h0]at h1;cases h1
    .simp [Array.getElem?_eq_none h']at h1
   have Pu:(∀w,S w->T w)\/Ih Z (ls.setIfInBounds j true):=by
    rcases hT with h'|h'
    .exact Or.inl h'
    .rcases hn with ZK|ZK
     .exact Or.inl ZK
     .refine Or.inr (Cw ZK ?_)
      cases hz:Z j with
      |false=>rfl
      |true=>
       obtain ⟨e,he,hb,heq⟩:=h'.2 j oj Yj hz;exact absurd heq (T9 e he hb)
   have h2:=wpOp_putIf Yj (Pt j oj Yj vh T8 T9) (λcs b=>T7 i oi cs b hi) (λcs b=>T7 j oj cs b Yj) hQ hy h1
   have QD: ∀k ok,ops[k]?=some ok->k≠i->(ls.setIfInBounds j true).getD k true=false->
    (∀e∈ok.after,Region.binds md e=true->e.on≠i)->oi.apart ops ok=true:=λk ok hk Yk ZL hno=>by
    refine Pt k ok hk Yk ?_ hno;by_cases hjk:j=k
    .subst hjk;exact T8
    .rw [getD_set_ne true hjk]at ZL;exact ZL
   have Pv: ∀l:Array Bool,(l.setIfInBounds i true).setIfInBounds j true=(l.setIfInBounds j true).setIfInBounds i true:=λl=>by rw [Array.setIfInBounds_comm _ _ vh]
   refine wpOp_mono (λa' w' h3=> ?_) h2;have h4:Ih Z (ls.setIfInBounds j true)->R w':=λhz=>h3.2.2.1 (by rw [Pv];exact Cw hz T5);exact ⟨h3.2.1,h4,ih (ls.setIfInBounds j true) a' w' QD (ready_mono hr (Ne.symm vh)) h3.1 h3.2.1 h4 Pu (by rw [<-Pv];exact h3.2.2.2)⟩
theorem fZ {i:Nat} {oi:Oper} {v:Value} {n:Nat} {ls:Array Bool} {a:Act} {w:World} (hi:ops[i]?=some oi)
 (hs:Region.noSelect ops=true) (hf:Region.free md ops ls i=true) (hr:(Region.ready md ops ls).contains i=true) (T5:Z i=false)
 (hQ: ∀c a w,Q (.panic c) (a.put oi.dst v) w->Q (.panic c) a w) (hy:YieldsIf P ops S oi v a) (hS:S w) (hR:R w\/uC Z ls=true)
 (h:eV P md ops Q S R Z n (ls.setIfInBounds i true) (a.put oi.dst v) w):eV P md ops Q S R Z (n+1) ls a w:=
 qU (T:=S) hi T5 (Region.noSelect_spec hs) hQ (Or.inl λ_ h=>h) n ls a w (Region.free_spec hi hf) (by simpa using hr) hy hS (λhn=>hR.elim id (λh=>absurd hn (GK h))) (Or.inl λ_ h=>h) h
theorem qV {i:Nat} {oi:Oper} {v:Value} {n:Nat} {ls:Array Bool} {a:Act} {w:World} (hi:ops[i]?=some oi)
 (hs:Region.noSelect ops=true) (hf:Region.free md ops ls i=true) (hr:(Region.ready md ops ls).contains i=true) (T5:Z i=false) (hz:Aw md ops Z i=true) (hl:uC Z ls=false)
 (hQ: ∀c a w,Q (.panic c) (a.put oi.dst v) w->Q (.panic c) a w) (hy:YieldsIf P ops (λw=>S w/\R w) oi v a) (hS:S w) (hR:R w)
 (h:eV P md ops Q S R Z n (ls.setIfInBounds i true) (a.put oi.dst v) w):eV P md ops Q S R Z (n+1) ls a w:=
 qU (T:=λw=>S w/\R w) hi T5 (Region.noSelect_spec hs) hQ (Or.inr ⟨λ_ h1 h2=>⟨h1,h2⟩,Cv hz⟩) n ls a w (Region.free_spec hi hf) (by simpa using hr) hy hS (λ_=>hR) (Or.inr λj hj=>by
  by_cases EB:j<ls.size
  .have h1:=List.any_eq_false.1 hl j (List.mem_range.2 EB)
   rw [hj,Bool.true_and]at h1;simpa using h1
  .simp [Array.getD,EB]) h
def aQ (P:Program) (md:Region.Mode) (ops:Array Oper) (Q:Exit->Act->World->Prop) (S R:World->Prop) (Z:Nat->Bool) (n:Nat) (ls:Array Bool) (a:Act) (w:World) (rs:List Nat):Prop:=
 ∀i∈rs,wpOp P ops Q i (λa' w'=>S w'/\(Ih Z (ls.setIfInBounds i true)->R w')/\eV P md ops Q S R Z n (ls.setIfInBounds i true) a' w') a w
theorem aQ.nil {n:Nat} {ls:Array Bool} {a:Act} {w:World}:aQ P md ops Q S R Z n ls a w []:=λ_ h=>by cases h
theorem aQ.cons {n:Nat} {ls:Array Bool} {a:Act} {w:World} {i:Nat} {o:Oper} {rs:List Nat} (ho:ops[i]?=some o)
 (h: ∀K':Act->World->Prop,Shut (∀a w,S w->R w->(S w->R w->eV P md ops Q S R Z n (ls.setIfInBounds i true) a w)->K' a w)->if Region.wanted o (yielded ops a.tmps)=true then Oper.wp P o a w K' Q else K' (a.put o.dst undef) w)
 (hs:aQ P md ops Q S R Z n ls a w rs):aQ P md ops Q S R Z n ls a w (i::rs):=λj hj=>by
 rcases List.mem_cons.1 hj with rfl|hj
 .exact wpOp_step ho (λK' hK=>h K' (λa w hS hR hW=>hK a w ⟨hS,λ_=>hR,hW hS hR⟩))
 .exact hs j hj
theorem aQ.late {n:Nat} {ls:Array Bool} {a:Act} {w:World} {i:Nat} {o:Oper} {rs:List Nat} (ho:ops[i]?=some o) (hz:uC Z (ls.setIfInBounds i true)=true)
 (h: ∀K':Act->World->Prop,Shut (∀a w,S w->(S w->eV P md ops Q S R Z n (ls.setIfInBounds i true) a w)->K' a w)->if Region.wanted o (yielded ops a.tmps)=true then Oper.wp P o a w K' Q else K' (a.put o.dst undef) w)
 (hs:aQ P md ops Q S R Z n ls a w rs):aQ P md ops Q S R Z n ls a w (i::rs):=λj hj=>by
 rcases List.mem_cons.1 hj with rfl|hj
 .exact wpOp_step ho (λK' hK=>h K' (λa w hS hW=>hK a w ⟨hS,λe=>absurd e (GK hz),hW hS⟩))
 .exact hs j hj
theorem bH {rs:List Nat} {n:Nat} {ls:Array Bool} {a:Act} {w:World} (hr:Region.ready md ops ls=rs) (hne:rs≠ [])
 (h:aQ P md ops Q S R Z n ls a w rs):eV P md ops Q S R Z (n+1) ls a w:=⟨λh0=>absurd (hr▸h0) hne,hr▸h⟩
theorem aI {ls:Array Bool} {a:Act} {w:World} (hr:Region.ready md ops ls= []) (h:Q .normal a w): ∀n,eV P md ops Q S R Z n ls a w
 |0=>⟨hr,h⟩
 |_+1=>⟨λ_=>h,by rw [hr];simp⟩
theorem aO {id:Nat} {a:Act} {w:World} (S R:World->Prop) (Z:Nat->Bool) (hm:P.follows .mixedOrders=true) (hS:S w.drew) (hR:R w.drew)
 (h:S w.drew->R w.drew->eV P .any ops Q S R Z ops.size (Array.replicate ops.size false) a w.drew):(Code.region id ops true).wp P Q a w:=
 wp_region_any hm (ng _ _ _ _ (h hS hR))
end
theorem j8 {α:Type} (l:List α) (i:Nat) (h:i<l.length):l.toArray[i]'h=l[i]'h:=rfl
theorem j9 {α:Type} (a:α) (l:List α) (i:Nat) (h:i+1<(a::l).length):(a::l)[i+1]=l[i]'(Nat.lt_of_succ_lt_succ h):=rfl
theorem j_ {α:Type} (a:α) (l:List α) (h:0<(a::l).length):(a::l)[0]=a:=rfl
theorem ke {α:Type} (x:α) (l:List α) (a:α):(x::l).set 0 a=a::l:=rfl
theorem kf {α:Type} (x:α) (l:List α) (i:Nat) (a:α):(x::l).set (i+1) a=x::l.set i a:=rfl
section
variable{P:Program} {ops:Array Oper} {Q:Exit->Act->World->Prop} {md:Region.Mode} {S R:World->Prop} {Z:Nat->Bool} {n:Nat} {ls uD:Array Bool} {a a':Act} {w:World}
theorem aJ (i:Nat) {v:Value} {o:Oper} (hS:S w) (hR:R w) (h:eV P md ops Q S R Z n uD a' w) (hi:ops[i]?=some o:=by rfl) (hy: ∀w,S w->(execOp a.eval o).run P w= .ok (.value v) w:=by intro w e;go_simp;try rfl)
 (hl:ls.setIfInBounds i true=uD:=by first|(simp only [j8,j9,j_,List.setIfInBounds_toArray,ke,kf,List.size_toArray,List.length_cons,List.length_nil,Nat.reduceAdd,Array.replicate_succ,Array.replicate_zero,List.push_toArray,List.append_toArray,List.nil_append,List.cons_append];rfl)|rfl) (ha:a.put o.dst v=a':=by first|(simp only [j8,j9,j_,List.setIfInBounds_toArray,ke,kf,Act.put];rfl)|rfl) (h1:Region.noSelect ops=true:=by kernel_rfl) (h2:Region.free md ops ls i=true:=by kernel_rfl)
 (h3:(Region.ready md ops ls).contains i=true:=by kernel_rfl) (h4:Z i=false:=by kernel_rfl) (h5: ∀c a w,Q (.panic c) (a.put o.dst v) w->Q (.panic c) a w:=by exact λ_ _ _ h=>h)
 (h6:Region.wanted o (yielded ops a.tmps)=true:=by rfl):eV P md ops Q S R Z (n+1) ls a w:=by
 subst hl ha;exact fZ hi h1 h2 h3 h4 h5 (Or.inl ⟨h6,hy⟩) hS (Or.inl hR) h
theorem tF (i:Nat) {o:Oper} (hS:S w) (hR:R w) (h:eV P md ops Q S R Z n uD a' w) (hi:ops[i]?=some o:=by rfl)
 (hl:ls.setIfInBounds i true=uD:=by first|(simp only [j8,j9,j_,List.setIfInBounds_toArray,ke,kf,List.size_toArray,List.length_cons,List.length_nil,Nat.reduceAdd,Array.replicate_succ,Array.replicate_zero,List.push_toArray,List.append_toArray,List.nil_append,List.cons_append];rfl)|rfl) (ha:a.put o.dst undef=a':=by first|(simp only [j8,j9,j_,List.setIfInBounds_toArray,ke,kf,Act.put];rfl)|rfl) (h1:Region.noSelect ops=true:=by kernel_rfl) (h2:Region.free md ops ls i=true:=by kernel_rfl)
 (h3:(Region.ready md ops ls).contains i=true:=by kernel_rfl) (h4:Z i=false:=by kernel_rfl) (h5: ∀c a w,Q (.panic c) (a.put o.dst undef) w->Q (.panic c) a w:=by exact λ_ _ _ h=>h)
 (h6:Region.wanted o (yielded ops a.tmps)=false:=by rfl):eV P md ops Q S R Z (n+1) ls a w:=by
 subst hl ha;exact fZ hi h1 h2 h3 h4 h5 (Or.inr ⟨h6,rfl⟩) hS (Or.inl hR) h
theorem GL (i:Nat) {v:Value} {o:Oper} (hS:S w) (hR:R w) (h:eV P md ops Q S R Z n uD a' w) (hi:ops[i]?=some o:=by rfl) (hy: ∀w,S w/\R w->(execOp a.eval o).run P w= .ok (.value v) w:=by intro w e;go_simp;try rfl)
 (hl:ls.setIfInBounds i true=uD:=by first|(simp only [j8,j9,j_,List.setIfInBounds_toArray,ke,kf,List.size_toArray,List.length_cons,List.length_nil,Nat.reduceAdd,Array.replicate_succ,Array.replicate_zero,List.push_toArray,List.append_toArray,List.nil_append,List.cons_append];rfl)|rfl) (ha:a.put o.dst v=a':=by first|(simp only [j8,j9,j_,List.setIfInBounds_toArray,ke,kf,Act.put];rfl)|rfl) (h1:Region.noSelect ops=true:=by kernel_rfl) (h2:Region.free md ops ls i=true:=by kernel_rfl)
 (h3:(Region.ready md ops ls).contains i=true:=by kernel_rfl) (h4:Z i=false:=by kernel_rfl) (h7:Aw md ops Z i=true:=by kernel_rfl) (h8:uC Z ls=false:=by kernel_rfl) (h5: ∀c a w,Q (.panic c) (a.put o.dst v) w->Q (.panic c) a w:=by exact λ_ _ _ h=>h)
 (h6:Region.wanted o (yielded ops a.tmps)=true:=by rfl):eV P md ops Q S R Z (n+1) ls a w:=by
 subst hl ha;exact qV hi h1 h2 h3 h4 h7 h8 h5 (Or.inl ⟨h6,hy⟩) hS hR h
theorem wTl (i:Nat) {v:Value} {o:Oper} (hS:S w) (h:eV P md ops Q S R Z n uD a' w) (hi:ops[i]?=some o:=by rfl) (hy: ∀w,S w->(execOp a.eval o).run P w= .ok (.value v) w:=by intro w e;go_simp;try rfl)
 (hl:ls.setIfInBounds i true=uD:=by first|(simp only [j8,j9,j_,List.setIfInBounds_toArray,ke,kf,List.size_toArray,List.length_cons,List.length_nil,Nat.reduceAdd,Array.replicate_succ,Array.replicate_zero,List.push_toArray,List.append_toArray,List.nil_append,List.cons_append];rfl)|rfl) (ha:a.put o.dst v=a':=by first|(simp only [j8,j9,j_,List.setIfInBounds_toArray,ke,kf,Act.put];rfl)|rfl) (h1:Region.noSelect ops=true:=by kernel_rfl) (h2:Region.free md ops ls i=true:=by kernel_rfl)
 (h3:(Region.ready md ops ls).contains i=true:=by kernel_rfl) (h4:Z i=false:=by kernel_rfl) (h8:uC Z ls=true:=by kernel_rfl) (h5: ∀c a w,Q (.panic c) (a.put o.dst v) w->Q (.panic c) a w:=by exact λ_ _ _ h=>h)
 (h6:Region.wanted o (yielded ops a.tmps)=true:=by rfl):eV P md ops Q S R Z (n+1) ls a w:=by
 subst hl ha;exact fZ hi h1 h2 h3 h4 h5 (Or.inl ⟨h6,hy⟩) hS (Or.inr h8) h
theorem eI (i:Nat) {o:Oper} (ho:ops[i]?=some o)
 (h: ∀K':Act->World->Prop,Shut (∀a w,S w->R w->(S w->R w->eV P md ops Q S R Z n (ls.setIfInBounds i true) a w)->K' a w)->if Region.wanted o (yielded ops a.tmps)=true then Oper.wp P o a w K' Q else K' (a.put o.dst undef) w)
 (hr:Region.ready md ops ls= [i]:=by kernel_rfl):eV P md ops Q S R Z (n+1) ls a w:=bH hr aG (aQ.cons ho h aQ.nil)
end
theorem sS:(∀(α:Type) (l:List α) (i:Nat) (h:i<l.length),l.toArray[i]'h=l[i]'h)/\(∀(α:Type) (a:α) (l:List α) (i:Nat) (h:i+1<(a::l).length),(a::l)[i+1]=l[i]'(Nat.lt_of_succ_lt_succ h))/\(∀(α:Type) (a:α) (l:List α) (h:0<(a::l).length),(a::l)[0]=a)/\
 (∀(α:Type) (l:List α) (i:Nat) (a:α),l.toArray.setIfInBounds i a=(l.set i a).toArray)/\(∀(α:Type) (x:α) (l:List α) (a:α),(x::l).set 0 a=a::l)/\(∀(α:Type) (x:α) (l:List α) (i:Nat) (a:α),(x::l).set (i+1) a=x::l.set i a)/\(∀(a:Act) (i:Nat) (v:Value),a.put i v={a with tmps:=a.tmps.setIfInBounds i v}):=
 ⟨λ_ _ _ _=>rfl,λ_ _ _ _ _=>rfl,λ_ _ _ _=>rfl,λ_ _ _ _=>List.setIfInBounds_toArray .., λ_ _ _ _=>rfl,λ_ _ _ _ _=>rfl,λ_ _ _=>rfl⟩
