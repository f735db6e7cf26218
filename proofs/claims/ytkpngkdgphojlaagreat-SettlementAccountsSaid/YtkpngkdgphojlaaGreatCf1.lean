/- Texts of the proof. -/
import Derived.KernelRfl
import Derived.WalkKit
import Derived.WalkSpells
import Derived.Sort.Grow
import Derived.Lib.Hide
import Derived.Laws.CopyOwn
import Derived.Laws.BitsAllLaws
import Derived.Deep.QuietTactic
import Derived.BigQuiet
import Derived.Test.YtkpngkdgphojlaaGreatProg
import Derived.WalkLawsBesides
import Derived.Deep.RegionWith
import Derived.Deep.RegionHeld3
import Derived.Lib.Strings
import Derived.Lib.Slices
import Derived.Lib.Small
import Derived.Lib.Walk
import Derived.Lib.BitFns
import Derived.Deep.DeepCutAuto
import Derived.Deep.CutBlock
import Derived.IntWalk
import Derived.Deep.LoopGhost
import Derived.Laws.AppendOwnNone
import Derived.ProofKit
import Derived.OpenShut
import Derived.ShutString
import Derived.ChangeOld
import Derived.Below
import Derived.Deep.RegionHeld
import Derived.Deep.Slices
import Derived.Maps.RangeWalk
import Derived.Maps.OwnSet
import Derived.Maps.OwnOps
import Derived.Maps.Views
import Derived.Lib.MinMax
set_option linter.all false
namespace Go.Proofs.YtkpngkdgphojlaaGreat
open Go.Proofs.Tryz
theorem _root_.Go.RowKit.Hid.o {p:Prop} (h:Go.RowKit.Hid p):p:=h
theorem ae {p:Prop} (h:p):Go.RowKit.Hid p:=h
def val:List Nat→Nat
 | []=>0
 |x::xs=>x+4294967296*val xs
def Small (l:List Nat):Prop:= ∀x∈l,x<4294967296
theorem Small.tail {x:Nat} {l:List Nat} (h:Small (x::l)):Small l:=fun y hy=>h y (List.mem_cons_of_mem _ hy)
theorem Small.take {l:List Nat} (h:Small l) (k:Nat):Small (l.take k):=fun y hy=>h y (List.mem_of_mem_take hy)
theorem Small.drop {l:List Nat} (h:Small l) (k:Nat):Small (l.drop k):=fun y hy=>h y (List.mem_of_mem_drop hy)
theorem Small.nil:Small []:=fun _ h=>by cases h
theorem Small.append {l m:List Nat} (h:Small l) (h':Small m):Small (l++m):=fun y hy=>by
 rcases List.mem_append.1 hy with h1|h1
 ·exact h y h1
 ·exact h' y h1
theorem Small.one {x:Nat} (h:x<4294967296):Small [x]:=fun y hy=>by
 simp at hy;omega
theorem Small.set {l:List Nat} (h:Small l) (k x:Nat) (hx:x<4294967296):Small (l.set k x):=fun y hy=>by
 rcases List.mem_or_eq_of_mem_set hy with h1|h1
 ·exact h y h1
 ·omega
theorem Small.replicate (n:Nat):Small (List.replicate n 0):=fun y hy=>by
 have:=List.eq_of_mem_replicate hy;omega
theorem cI (l m:List Nat):val (l++m)=val l+4294967296^l.length*val m:=by
 induction l with
 |nil=>simp [val]
 |cons x xs ih=>
  simp only [List.cons_append,val,ih,List.length_cons,Nat.pow_succ,Nat.mul_add,Nat.add_assoc];rw [←Nat.mul_assoc,Nat.mul_comm 4294967296 (4294967296^xs.length)]
theorem jh {l:List Nat} (h:Small l):val l<4294967296^l.length:=by
 induction l with
 |nil=>simp [val]
 |cons x xs ih=>
  have h1:=ih h.tail;have h2:=h x (List.mem_cons_self ..);simp only [val,List.length_cons,Nat.pow_succ];generalize 4294967296^xs.length=p at*;omega
def limb (l:List Nat) (i:Nat):Nat:=l[i]?.getD 0
theorem jR (l:List Nat) (k:Nat) (h:k≤l.length):val l=val (l.take k)+4294967296^k*val (l.drop k):=by
 conv=>lhs;rw [←List.take_append_drop k l]
 rw [cI,List.length_take,Nat.min_eq_left h]
theorem sw {l:List Nat} {k i:Nat} (h:i<k):limb (l.take k) i=limb l i:=by
 unfold limb;rw [List.getElem?_take,if_pos h]
def len (n:Nat):Nat:=if n=0 then 0 else n.log2/32+1
theorem pow_eq (k:Nat):(4294967296:Nat)^k=2^(32*k):=by
 rw [show(4294967296:Nat)=2^32 from by decide,←Nat.pow_mul]
theorem dZ {n k:Nat}:len n≤k↔n<4294967296^k:=by
 unfold len;rw [pow_eq];by_cases h:n=0
 ·subst h;simp [Nat.two_pow_pos]
 ·rw [if_neg h,←Nat.log2_lt h];omega
theorem kQ:len 0=0:=rfl
theorem ie (n:Nat):n<4294967296^len n:=dZ.1 (Nat.le_refl _)
theorem cM {m n:Nat} (h:m≤n):len m≤len n:=dZ.2 (Nat.lt_of_le_of_lt h (ie n))
theorem EG {n:Nat} (h:0<n) (h':n<4294967296):len n=1:=by
 have h1:= @dZ n 1;have h2:= @dZ n 0;simp at h1 h2;omega
theorem pS {l:List Nat} (h:Small l):len (val l)≤l.length:=dZ.2 (jh h)
theorem kR {l:List Nat} (_h:Small l) {k:Nat} (hk:k≤l.length) (hn:len (val l)≤k):val (l.take k)=val l:=by
 have h1:=jR l k hk;have h2:=dZ.1 hn
 have h3:val (l.drop k)=0:=by
  apply Nat.eq_zero_of_not_pos;intro h4;have:4294967296^k*1≤4294967296^k*val (l.drop k):=Nat.mul_le_mul_left _ h4;omega
 rw [h1,h3];simp
open Go.RowKit Go.Sort
structure Ext (w w':World):Prop where
 below:Below w.heap.size w w'
 drawn:w.drawn≤w'.drawn
theorem Ext.refl (w:World):Ext w w:=⟨Below.refl _ _,Nat.le_refl _⟩
theorem Ext.size {w w':World} (h:Ext w w'):w.heap.size≤w'.heap.size:=h.below.size
theorem Ext.trans {a b c:World} (h:Ext a b) (k:Ext b c):Ext a c:=⟨h.below.trans (k.below.mono h.size),Nat.le_trans h.drawn k.drawn⟩
theorem Ext.alloc {a w:World} (h:Ext a w) (o:Obj):Ext a (w.alloc o):=⟨h.below.alloc h.size o,h.drawn⟩
theorem Ext.drew {a w:World} (h:Ext a w):Ext a w.drew:=⟨h.below.drew,Nat.le_succ_of_le h.drawn⟩
theorem Ext.drewN {a w:World} (h:Ext a w) (n:Nat):Ext a (w.drewN n):=⟨⟨h.below.os,h.below.tape,h.below.output,h.below.size,h.below.block⟩,Nat.le_trans h.drawn (Nat.le_add_right _ _)⟩
theorem Ext.setCell {a w:World} (h:Ext a w) {p:Addr} (hp:a.heap.size≤p.block) (u:Value):Ext a (w.setCell p u):=⟨h.below.setCell hp u,h.drawn⟩
theorem Ext.cell {w w':World} (h:Ext w w') {p:Addr} (hp:p.block<w.heap.size):w'.cell? p=w.cell? p:=h.below.cell hp
theorem Ext.frozen {w w':World} (h:Ext w w') {p:Addr} (hp:p.block<w.heap.size):w'.frozen? p=w.frozen? p:=h.below.frozen hp
theorem Ext.grow {w w':World} (h:Ext w w'): ∃q os,w'=Sort.grow (w.drewN q) os:=by
 obtain ⟨⟨h1,h2,h3,h4,h5⟩,h6⟩:=h;refine ⟨w'.drawn-w.drawn,w'.heap.extract w.heap.size w'.heap.size,?_⟩
 have hh:w'.heap=w.heap++w'.heap.extract w.heap.size w'.heap.size:=by
  apply Array.ext_getElem?;intro k;rw [Array.getElem?_append];by_cases hk:k<w.heap.size
  ·rw [if_pos hk,h5 k hk]
  ·rw [if_neg hk,Array.getElem?_extract]
   by_cases NR:k<w'.heap.size
   ·rw [if_pos (by omega)];congr 1;omega
   ·rw [if_neg (by omega)];exact Array.getElem?_eq_none (by omega)
 cases w' with
 |mk heap' tape' V8 os' UH=>
  cases w with
  |mk heap tape drawn os output=>
   simp only at h1 h2 h3 h4 h6 hh;subst h1 h2 h3;simp only [Sort.grow,World.drewN,World.mk.injEq,true_and,and_true];exact ⟨hh,by omega⟩
def Quiet (w w':World):Prop:= ∃q,w'=w.drewN q
theorem Quiet.refl (w:World):Quiet w w:=⟨0,rfl⟩
theorem Quiet.trans {a b c:World} (h:Quiet a b) (k:Quiet b c):Quiet a c:=by
 obtain ⟨q,rfl⟩:=h;obtain ⟨r,rfl⟩:=k;exact ⟨q+r,by simp [World.drewN,Nat.add_assoc]⟩
theorem Quiet.drewN {a b:World} (h:Quiet a b) (q:Nat):Quiet a (b.drewN q):=h.trans ⟨q,rfl⟩
theorem Quiet.drew {a b:World} (h:Quiet a b):Quiet a b.drew:=h.trans ⟨1,rfl⟩
theorem Quiet.ext {a b:World} (h:Quiet a b):Ext a b:=by obtain ⟨q,rfl⟩:=h;exact (Ext.refl _).drewN q
theorem cG {w:World} {p:Addr} {v:Value} (h:w.cell? p=some v):p.block<w.heap.size:=by
 unfold World.cell? at h;by_cases hb:p.block<w.heap.size
 ·exact hb
 ·rw [Array.getElem?_eq_none (by omega)]at h;simp at h
structure eG (w:World) (a:Option Addr) (c:Nat) (l:List Nat):Prop where
 le:l.length≤c
 cap:c≤9223372036854775807
 short:l.length≤1099511627776
 Ia:a=none→c=0
 small:Small l
 cell: ∀i,i<l.length→ ∃b o,a=some ⟨b,o,none⟩∧w.cell? ⟨b,o+i,none⟩=some (.int .u32 (limb l i:Nat))
def Raw (w:World) (a:Option Addr) (k c n:Nat):Prop:= ∃l,l.length=k∧val l=n∧eG w a c l
def aQ (w:World) (b:Nat) (T:TypeId) (vs:List Value):Prop:=w.heap[b]?=some (.cells vs.toArray T (0,0))
theorem aQ.lt {w:World} {b:Nat} {T:TypeId} {vs:List Value} (h:aQ w b T vs):b<w.heap.size:=(Array.getElem?_eq_some_iff.1 h).1
theorem aQ.cell {w:World} {b:Nat} {T:TypeId} {vs:List Value} (h:aQ w b T vs) (i:Nat):w.cell? ⟨b,i,none⟩=vs[i]?:=by
 simp [World.cell?,show w.heap[b]?=_ from h]
theorem aQ.cl {w:World} {b:Nat} {T:TypeId} {vs:List Value} (h:aQ w b T vs) (i:Nat) (v:Value) (hv:vs[i]?=some v):w.cell? ⟨b,i,none⟩=some v:=(h.cell i).trans hv
theorem aQ.frozen {w:World} {b:Nat} {T:TypeId} {vs:List Value} (h:aQ w b T vs) (i:Nat):w.frozen? ⟨b,i,none⟩=false:=by
 simp [World.frozen?,show w.heap[b]?=_ from h]
theorem aQ.ext {w w':World} {b:Nat} {T:TypeId} {vs:List Value} (h:aQ w b T vs) (e:Ext w w'):aQ w' b T vs:=by
 unfold aQ;rw [e.below.block b h.lt];exact h
theorem aQ.below {B:Nat} {w w':World} {b:Nat} {T:TypeId} {vs:List Value} (h:aQ w b T vs) (e:Below B w w') (hb:b<B):aQ w' b T vs:=by
 unfold aQ;rw [e.block b hb];exact h
theorem aQ.set {w:World} {b:Nat} {T:TypeId} {vs:List Value} (h:aQ w b T vs) (i:Nat) (v:Value):aQ (w.setCell ⟨b,i,none⟩ v) b T (vs.set i v):=by
 unfold aQ World.setCell;simp [Array.getElem?_modify,show w.heap[b]?=_ from h]
theorem aQ.other {w:World} {b:Nat} {T:TypeId} {vs:List Value} (h:aQ w b T vs) (p:Addr) (v:Value) (hp:p.block≠b):aQ (w.setCell p v) b T vs:=by
 unfold aQ;rw [Below.heap_setCell _ _ _ _ (by omega)];exact h
theorem aQ.alloc (w:World) (T:TypeId) (vs:List Value):aQ (w.alloc (.cells vs.toArray T)) w.heap.size T vs:=by
 unfold aQ World.alloc;simp
theorem ak {W w1:World} (hx:Ext W w1) {p:Addr} {v:Value} (h:W.cell? p=some v):w1.cell? p=some v:=by rw [hx.cell (cG h)];exact h
theorem ax {W w1:World} {b:Nat} {T:TypeId} {v0 v1:Value} (h:aQ W b T [v0,v1]) (hx:Ext W w1):
 w1.cell? ⟨b,0,none⟩=some v0∧w1.cell? ⟨b,1,none⟩=some v1∧w1.frozen? ⟨b,0,none⟩=false∧w1.frozen? ⟨b,1,none⟩=false:=
 ⟨(h.ext hx).cell 0,(h.ext hx).cell 1,(h.ext hx).frozen 0,(h.ext hx).frozen 1⟩
theorem aN {W w1:World} {b:Nat} {T:TypeId} {v0 v1 v2:Value} (h:aQ W b T [v0,v1,v2]) (hx:Ext W w1):
 w1.cell? ⟨b,0,none⟩=some v0∧w1.cell? ⟨b,1,none⟩=some v1∧w1.cell? ⟨b,2,none⟩=some v2∧w1.frozen? ⟨b,0,none⟩=false∧w1.frozen? ⟨b,1,none⟩=false∧w1.frozen? ⟨b,2,none⟩=false:=
 ⟨(h.ext hx).cell 0,(h.ext hx).cell 1,(h.ext hx).cell 2,(h.ext hx).frozen 0,(h.ext hx).frozen 1,(h.ext hx).frozen 2⟩
def Fr (b:Nat) (a:Option Addr):Prop:= ∀x,a=some x→b≤x.block
theorem Fr.none (b:Nat):Fr b Option.none:=fun _ h=>by cases h
theorem Fr.some {b b' o:Nat} {s} (h:b≤b'):Fr b (Option.some ⟨b',o,s⟩):=fun _ e=>by cases e;exact h
theorem Fr.mono {b b':Nat} {a:Option Addr} (h:Fr b a) (hb:b'≤b):Fr b' a:=fun x e=>Nat.le_trans hb (h x e)
theorem eG.ext {w w':World} {a:Option Addr} {c:Nat} {l:List Nat} (h:eG w a c l) (e:Ext w w'):eG w' a c l:=
 ⟨h.le,h.cap,h.short,h.Ia,h.small,fun i hi=>by
   obtain ⟨b,o,ha,hc⟩:=h.cell i hi;exact ⟨b,o,ha,by rw [e.cell (cG hc)];exact hc⟩⟩
theorem eG.below {w w':World} {B:Nat} {a:Option Addr} {c:Nat} {l:List Nat} (h:eG w a c l) (e:Below B w w') (hb: ∀x,a=some x→x.block<B):eG w' a c l:=
 ⟨h.le,h.cap,h.short,h.Ia,h.small,fun i hi=>by
   obtain ⟨b,o,ha,hc⟩:=h.cell i hi;exact ⟨b,o,ha,by rw [e.cell (p:=⟨b,o+i,none⟩) (show b<B from hb ⟨b,o,none⟩ ha)];exact hc⟩⟩
theorem eG.setCell {w:World} {a:Option Addr} {c:Nat} {l:List Nat} (h:eG w a c l) (p:Addr) (v:Value) (hp: ∀x,a=some x→x.block≠p.block):eG (w.setCell p v) a c l:=
 ⟨h.le,h.cap,h.short,h.Ia,h.small,fun i hi=>by
   obtain ⟨b,o,ha,hc⟩:=h.cell i hi;refine ⟨b,o,ha,?_⟩;rw [World.cell?_setCell_other _ _ _ _ (by intro e;exact hp _ ha (by rw [e]))];exact hc⟩
theorem eG.take {w:World} {a:Option Addr} {c:Nat} {l:List Nat} (h:eG w a c l) (k:Nat) (hk:k≤l.length):eG w a c (l.take k):=
 ⟨by rw [List.length_take];have:=h.le;omega,h.cap,by rw [List.length_take];have:=h.short;omega,h.Ia,h.small.take k,fun i hi=>by
   rw [List.length_take]at hi;obtain ⟨b,o,ha,hc⟩:=h.cell i (by omega);exact ⟨b,o,ha,by rw [sw (by omega)];exact hc⟩⟩
theorem eG.nil (w:World):eG w none 0 []:=⟨Nat.zero_le _,by omega,Nat.zero_le _,fun _=>rfl,Small.nil,fun _ h=>by cases h⟩
theorem eG.at {w:World} {a:Option Addr} {c:Nat} {l:List Nat} (h:eG w a c l) (h0:0<l.length): ∃b o,a=some ⟨b,o,none⟩:=by
 obtain ⟨b,o,ha,_⟩:=h.cell 0 h0;exact ⟨b,o,ha⟩
theorem eG.cellAt {w:World} {b o c:Nat} {l:List Nat} (h:eG w (some ⟨b,o,none⟩) c l) (i:Nat) (hi:i<l.length):w.cell? ⟨b,o+i,none⟩=some (.int .u32 (limb l i:Nat)):=by
 obtain ⟨b',o',e,hc⟩:=h.cell i hi;cases e;exact hc
theorem Raw.ext {w w':World} {a:Option Addr} {k c n:Nat} (h:Raw w a k c n) (e:Ext w w'):Raw w' a k c n:=by
 obtain ⟨l,h1,h2,h3⟩:=h;exact ⟨l,h1,h2,h3.ext e⟩
theorem Raw.setCell {w:World} {a:Option Addr} {k c n:Nat} (h:Raw w a k c n) (p:Addr) (v:Value) (hp: ∀x,a=some x→x.block≠p.block):Raw (w.setCell p v) a k c n:=by
 obtain ⟨l,h1,h2,h3⟩:=h;exact ⟨l,h1,h2,h3.setCell p v hp⟩
theorem Fr.ne {b b':Nat} {a:Option Addr} (h:Fr b a) (hb:b'<b): ∀x,a=Option.some x→x.block≠b':=fun x e=>by have:=h x e;omega
theorem Raw.nil (w:World):Raw w none 0 0 0:=⟨[],rfl,rfl,eG.nil _⟩
theorem Raw.dZ {w:World} {a:Option Addr} {k c n:Nat} (h:Raw w a k c n):len n≤k:=by
 obtain ⟨l,h1,h2,h3⟩:=h;rw [←h1,←h2];exact pS h3.small
theorem Raw.le {w:World} {a:Option Addr} {k c n:Nat} (h:Raw w a k c n):k≤c∧k≤1099511627776∧c≤9223372036854775807:=by
 obtain ⟨l,h1,h2,h3⟩:=h;exact ⟨h1▸h3.le,h1▸h3.short,h3.cap⟩
theorem Raw.cut {w:World} {a:Option Addr} {k c n:Nat} (h:Raw w a k c n):Raw w a (len n) c n:=by
 obtain ⟨l,h1,h2,h3⟩:=h;have hl:=pS h3.small;rw [h2]at hl;exact ⟨l.take (len n),by rw [List.length_take];omega,by rw [kR h3.small hl (by rw [h2];exact Nat.le_refl _),h2],h3.take _ hl⟩
theorem wQ (z:Value) (n:Nat):madeCells #[z] n=(List.replicate n z).toArray:=by
 unfold madeCells;apply Array.ext
 ·simp
 ·intro i h1 h2;simp [Nat.mod_one]
theorem bO {P:Program} (w:World) {ops:Array Oper} {rest:List Oper} {o:Oper} {a:Act} {Q:Exit→Act→World→Prop}
 (hg:o.guard=none) (l c:Operand) (t:TypeId) (hop:o.op=Op.makeSlice t l c)
 (e:TypeId) (z:Value) (bytes:Nat) (h1:P.underlying t=some (.slice e)) (h2:(P.info? e).map (fun i=>(i.zero,i.size,i.bytes))=some (some z,1,bytes)) (h3:z.cells= #[z])
 (L C:Int) (n:Nat) (hl:a.eval l= .int .i64 L) (hc:a.eval c= .int .i64 C) (hL:L=(n:Int)) (hC:C=(n:Int)) (b2:bytes*n≤281474976710656) (b3:n≤9223372036854775807)
 (hK: ∀w',Hid (aQ w' w.heap.size e (List.replicate n z))→Ext w w'→Hid (w'.heap.size=w.heap.size+1)→wpList P ops Q rest (a.put o.dst (.slice (some ⟨w.heap.size,0,none⟩) n n)) w'):
 wpList P ops Q (o::rest) a w:=by
 refine wpList_plain hg fun K hK'=> ?_;obtain ⟨i,h2,h4,h5,h6⟩:=info_parts h2;have hrun:=run_make (P:=P) w t e i z h1 h2 h4 .i64 .i64 n n (by omega) (Int.le_refl _) (by rw [h6,←Int.natCast_mul];omega) (by omega);subst hL;subst hC;unfold Oper.wp;simp only [Int.toNat_natCast,h5,Nat.mul_one,h3,wQ]at hrun;simp [execOp,hop,hl,hc,hrun,Result.andThen];exact hK' _ _ (hK _ (aQ.alloc _ _ _) ((Ext.refl _).alloc _) (show _=_ by simp))
theorem Ext.setRow {a w:World} (h:Ext a w) {g:Nat} (hg:a.heap.size≤g) (cs:Array Value):Ext a (w.setRow g cs):=⟨below_setRow h.below hg cs,h.drawn⟩
theorem ud {P:Program} {w:World} {ops:Array Oper} {rest:List Oper} {o:Oper} {a:Act} {Q:Exit→Act→World→Prop} (hgd:o.guard=none) (d s:Operand) (dT sT:TypeId)
 (ho:o.op= .call {callee:= .builtin .copy,args:= #[d,s],argTypes:= #[dT,sT]}) (elem:TypeId) (hu:P.underlying dT=some (.slice elem)) (hsz:(P.info? elem).map (·.size)=some 1)
 (dp sp:Option Addr) (K3 NS K4 NT:Nat) (hd:a.eval d= .slice dp K3 NS) (hs:a.eval s= .slice sp K4 NT)
 (g off:Nat) (cur:List Value) (t:TypeId) (hg:aQ w g t cur) (cs:List Value) (hn:cs.length=Nat.min K4 K3)
 (V9:0<cs.length→dp=some ⟨g,off,none⟩∧ ∃ad,sp=some ad∧ ∀j v,cs[j]?=some v→w.cell? (ad.add j)=some v)
 (Ib:off+cs.length≤cur.length) (h1: ∀v∈cs,v.oneCell'=true)
 (h: ∀w',Hid (aQ w' g t (splice cur off cs))→Hid (∀a0,Ext a0 w→a0.heap.size≤g→Ext a0 w')→Hid (w'.heap.size=w.heap.size)→wpList P ops Q rest (a.put o.dst (goInt cs.length)) w'):
 wpList P ops Q (o::rest) a w:=by
 by_cases h0:cs.length=0
 ·obtain rfl:cs= []:=List.eq_nil_of_length_eq_zero h0
  refine wpList_copy_nothing hgd d s dT sT ho elem hu hsz dp sp K3 NS K4 NT hd hs (by simpa using hn.symm) ?_;exact h w (show aQ _ _ _ _ by simpa [splice]using hg) (show∀a0,_ from fun _ h _=>h) rfl
 ·obtain ⟨rfl,ad,rfl,V_⟩:=V9 (by omega)
  refine wpList_copy_own hgd d s dT sT ho elem hu hsz g off K3 NS ad K4 NT hd hs cur.toArray t hg cs hn V_ (by simpa using Ib) h1 ?_;exact h _ (show aQ _ _ _ _ by unfold aQ;simpa [splice]using setRow_heap w g _ _ t _ hg) (show∀a0,_ from fun _ h hb=>h.setRow hb _) (show _=_ by simp [World.setRow])
def cV (l:List Nat):List Value:=l.map fun n=>Value.int .u32 (n:Nat)
theorem ig (l:List Nat):(cV l).length=l.length:=by simp [cV]
theorem fo (l:List Nat) (i x:Nat):(cV l).set i (.int .u32 (x:Nat))=cV (l.set i x):=by simp [cV,List.map_set]
theorem cT (n:Nat):List.replicate n (Value.int .u32 0)=cV (List.replicate n 0):=by simp [cV]
theorem et (l:List Nat) (i:Nat) (h:i<l.length):(cV l)[i]?=some (.int .u32 (limb l i:Nat)):=by simp [cV,limb,h]
theorem aQ.limbs {w:World} {b:Nat} {T:TypeId} {l:List Nat} (h:aQ w b T (cV l)) (hs:Small l) (hc:l.length≤1099511627776):eG w (some ⟨b,0,none⟩) l.length l:=
 ⟨Nat.le_refl _,by omega,hc,(fun e=>by cases e),hs,fun i hi=>⟨b,0,rfl,by rw [Nat.zero_add,h.cell,et _ _ hi]⟩⟩
theorem ML (x y:Nat) (hx:x<4294967296) (hy:y<4294967296):bits BinOp.or IntKind.u64 (x:Int) ((y:Int)*4294967296)=((x+4294967296*y:Nat):Int):=by
 have e:((y:Int)*4294967296)=((y*4294967296:Nat):Int):=by omega
 rw [e,u64_or_nat _ _ (by omega) (by omega)];have:=Nat.shiftLeft_add_eq_or_of_lt (i:=32) (b:=x) (by omega) y;rw [Nat.shiftLeft_eq]at this;rw [Nat.or_comm,←this];congr 1;omega
theorem AG (x y:Nat) (hx:x<4294967296) (hy:y<4294967296):bits BinOp.or IntKind.u64 ((x:Int)*4294967296) (y:Int)=((y+4294967296*x:Nat):Int):=by
 have e:((x:Int)*4294967296)=((x*4294967296:Nat):Int):=by omega
 rw [e,u64_or_nat _ _ (by omega) (by omega)];have:=Nat.shiftLeft_add_eq_or_of_lt (i:=32) (b:=y) (by omega) x;rw [Nat.shiftLeft_eq]at this;rw [←this];congr 1;omega
theorem or_zero (x:Nat) (hx:x<18446744073709551616):bits BinOp.or IntKind.u64 0 (x:Int)=(x:Int):=by
 have:=u64_or_nat 0 x (by omega) hx;simpa using this
theorem xQ {a:Option Addr} {k k' c:Nat} (h:k=k'):Ending.returned (.slice a k c)= .returned (.slice a k' c):=by rw [h]
theorem cd {k:IntKind} {a b:Int} (h:a=b):Ending.returned (.int k a)= .returned (.int k b):=by rw [h]
def iZ (n:Nat) (w:World) (e:Ending) (w':World):Prop:= ∃a c,e= .returned (.slice a (len n) c)∧Raw w' a (len n) c n∧Fr w.heap.size a∧Ext w w'
def fc (n m:Nat):Int:=if n<m then-1 else if n=m then 0 else 1
theorem CT (n m:Nat):(n<m∧fc n m= -1)∨(n=m∧fc n m=0)∨(m<n∧fc n m=1):=by
 unfold fc;by_cases h:n<m
 ·simp [h]
 ·by_cases h':n=m
  ·simp [h']
  ·simp [h,h'];omega
theorem qA (l:List Nat): ∀v∈cV l,v.oneCell'=true:=by
 intro v hv;simp only [cV,List.mem_map]at hv;obtain ⟨n,_,rfl⟩:=hv;rfl
theorem yX (l:List Nat) (j:Nat) (v:Value) (h:(cV l)[j]?=some v):j<l.length∧v= .int .u32 (limb l j:Nat):=by
 have hj:j<l.length:=by
  have:=(List.getElem?_eq_some_iff.1 h).1;rwa [ig]at this
 rw [et _ _ hj]at h;exact ⟨hj,by cases h;rfl⟩
theorem eG.src {w:World} {a:Option Addr} {c:Nat} {l:List Nat} (h:eG w a c l) (h0:0<l.length): ∃ad,a=some ad∧ ∀j v,(cV l)[j]?=some v→w.cell? (ad.add j)=some v:=by
 obtain ⟨b,o,ha⟩:=h.at h0;refine ⟨_,ha,fun j v hv=> ?_⟩;obtain ⟨hj,rfl⟩:=yX l j v hv;subst ha;have:=h.cellAt j hj;rw [show(Addr.add ⟨b,o,none⟩ j)=⟨b,o+j,none⟩from by unfold Addr.add;split<;>simp_all];exact this
structure Touch (lo hi:Nat) (w2 w3:World):Prop where
 os:w3.os=w2.os
 tape:w3.tape=w2.tape
 output:w3.output=w2.output
 drawn:w2.drawn≤w3.drawn
 size:w3.heap.size=w2.heap.size
 block: ∀k,k<lo∨hi≤k→w3.heap[k]?=w2.heap[k]?
theorem Touch.refl (lo hi:Nat) (w:World):Touch lo hi w w:=⟨rfl,rfl,rfl,Nat.le_refl _,rfl,fun _ _=>rfl⟩
theorem Touch.setCell {lo hi:Nat} {a w:World} (h:Touch lo hi a w) {p:Addr} (h1:lo≤p.block) (h2:p.block<hi) (v:Value):Touch lo hi a (w.setCell p v):=
 ⟨h.os,h.tape,h.output,h.drawn,by rw [←h.size];simp [World.setCell],fun k hk=>by rw [Below.heap_setCell _ _ _ _ (by omega)];exact h.block k hk⟩
theorem Touch.drew {lo hi:Nat} {a w:World} (h:Touch lo hi a w):Touch lo hi a w.drew:=⟨h.os,h.tape,h.output,Nat.le_succ_of_le h.drawn,h.size,h.block⟩
theorem Touch.drewN {lo hi:Nat} {a w:World} (h:Touch lo hi a w) (n:Nat):Touch lo hi a (w.drewN n):=⟨h.os,h.tape,h.output,Nat.le_trans h.drawn (Nat.le_add_right _ _),h.size,h.block⟩
theorem Ext.bh {w W w2 w3:World} (hW:Ext w W) (h:Ext W w2) (t:Touch w.heap.size W.heap.size w2 w3):Ext w w3:=by
 have h2:=hW.trans h;exact ⟨⟨t.os.trans h2.below.os,t.tape.trans h2.below.tape,t.output.trans h2.below.output,by rw [t.size];exact h2.below.size,fun k hk=>(t.block k (Or.inl hk)).trans (h2.below.block k hk)⟩,Nat.le_trans h2.drawn t.drawn⟩
theorem uV {lo hi:Nat} {w2 w3:World} (t:Touch lo hi w2 w3) {p:Addr} (hp:p.block<lo∨hi≤p.block):w3.cell? p=w2.cell? p:=by
 unfold World.cell?;rw [t.block _ hp]
theorem eG.bh {lo hi:Nat} {w2 w3:World} {a:Option Addr} {c:Nat} {l:List Nat} (h:eG w2 a c l) (t:Touch lo hi w2 w3) (ha: ∀x,a=some x→x.block<lo∨hi≤x.block):eG w3 a c l:=
 ⟨h.le,h.cap,h.short,h.Ia,h.small,fun i hi=>by
   obtain ⟨b,o,ha',hc⟩:=h.cell i hi;exact ⟨b,o,ha',by rw [uV t (p:=⟨b,o+i,none⟩) (ha ⟨b,o,none⟩ ha')];exact hc⟩⟩
theorem Raw.bh {lo hi:Nat} {w2 w3:World} {a:Option Addr} {k c n:Nat} (h:Raw w2 a k c n) (t:Touch lo hi w2 w3) (ha: ∀x,a=some x→x.block<lo∨hi≤x.block):Raw w3 a k c n:=by
 obtain ⟨l,h1,h2,h3⟩:=h;exact ⟨l,h1,h2,h3.bh t ha⟩
theorem Fr.o {lo hi:Nat} {a:Option Addr} (h:Fr hi a): ∀x,a=Option.some x→x.block<lo∨hi≤x.block:=fun x e=>Or.inr (h x e)
theorem Touch.one {lo hi b:Nat} (w:World) (h1:lo≤b) (h2:b<hi) (i:Nat) (v:Value):Touch lo hi w (w.setCell ⟨b,i,none⟩ v):=
 (Touch.refl _ _ _).setCell h1 h2 _
theorem Touch.two {lo hi b:Nat} (w:World) (h1:lo≤b) (h2:b<hi) (v0 v1:Value):Touch lo hi w ((w.setCell ⟨b,0,none⟩ v0).setCell ⟨b,1,none⟩ v1):=
 ((Touch.refl _ _ _).setCell h1 h2 _).setCell h1 h2 _
theorem Touch.three {lo hi b:Nat} (w:World) (h1:lo≤b) (h2:b<hi) (v0 v1 v2:Value):Touch lo hi w (((w.setCell ⟨b,0,none⟩ v0).setCell ⟨b,1,none⟩ v1).setCell ⟨b,2,none⟩ v2):=
 (((Touch.refl _ _ _).setCell h1 h2 _).setCell h1 h2 _).setCell h1 h2 _
theorem Touch.trans {lo hi:Nat} {a b c:World} (h:Touch lo hi a b) (k:Touch lo hi b c):Touch lo hi a c:=
 ⟨k.os.trans h.os,k.tape.trans h.tape,k.output.trans h.output,Nat.le_trans h.drawn k.drawn,k.size.trans h.size,fun i hi=>(k.block i hi).trans (h.block i hi)⟩
theorem aX (w:World) (T0:TypeId) (l0:List Value): ∃W:World,W=(w.alloc (.cells l0.toArray T0))∧Ext w W∧Hid (W.heap.size=w.heap.size+1)∧aQ W (w.heap.size) T0 l0:=by
 exact ⟨_,rfl,(Ext.refl _).alloc _,(show _=_ by simp),aQ.alloc _ _ _⟩
theorem er (w:World) (T0:TypeId) (l0:List Value) (T1:TypeId) (l1:List Value): ∃W:World,W=((w.alloc (.cells l0.toArray T0)).alloc (.cells l1.toArray T1))∧Ext w W∧Hid (W.heap.size=w.heap.size+2)∧aQ W (w.heap.size) T0 l0∧aQ W (w.heap.size+1) T1 l1:=by
 obtain ⟨V,hV,x0,z0,a0⟩:=aX w T0 l0;refine ⟨_,rfl,?_⟩;rw [←hV];have z1:=z0.o;have b:=aQ.alloc V T1 l1;rw [z1]at b;exact ⟨x0.alloc _,(show _=_ by simp [z1]),a0.ext ((Ext.refl _).alloc _),b⟩
theorem gl (w:World) (T0:TypeId) (l0:List Value) (T1:TypeId) (l1:List Value) (T2:TypeId) (l2:List Value): ∃W:World,W=(((w.alloc (.cells l0.toArray T0)).alloc (.cells l1.toArray T1)).alloc (.cells l2.toArray T2))∧Ext w W∧Hid (W.heap.size=w.heap.size+3)∧aQ W (w.heap.size) T0 l0∧aQ W (w.heap.size+1) T1 l1∧aQ W (w.heap.size+2) T2 l2:=by
 obtain ⟨V,hV,x0,z0,a0,a1⟩:=er w T0 l0 T1 l1;refine ⟨_,rfl,?_⟩;rw [←hV];have z1:=z0.o;have b:=aQ.alloc V T2 l2;rw [z1]at b;exact ⟨x0.alloc _,(show _=_ by simp [z1]),a0.ext ((Ext.refl _).alloc _),a1.ext ((Ext.refl _).alloc _),b⟩
theorem uW (w:World) (T0:TypeId) (l0:List Value) (T1:TypeId) (l1:List Value) (T2:TypeId) (l2:List Value) (T3:TypeId) (l3:List Value): ∃W:World,W=((((w.alloc (.cells l0.toArray T0)).alloc (.cells l1.toArray T1)).alloc (.cells l2.toArray T2)).alloc (.cells l3.toArray T3))∧Ext w W∧Hid (W.heap.size=w.heap.size+4)∧aQ W (w.heap.size) T0 l0∧aQ W (w.heap.size+1) T1 l1∧aQ W (w.heap.size+2) T2 l2∧aQ W (w.heap.size+3) T3 l3:=by
 obtain ⟨V,hV,x0,z0,a0,a1,a2⟩:=gl w T0 l0 T1 l1 T2 l2;refine ⟨_,rfl,?_⟩;rw [←hV];have z1:=z0.o;have b:=aQ.alloc V T3 l3;rw [z1]at b;exact ⟨x0.alloc _,(show _=_ by simp [z1]),a0.ext ((Ext.refl _).alloc _),a1.ext ((Ext.refl _).alloc _),a2.ext ((Ext.refl _).alloc _),b⟩
def aZ (s:Bool) (n:Nat):Int:=if s then-(n:Int)else n
theorem bF (s:Bool) (n:Nat):(aZ s n).natAbs=n:=by unfold aZ;cases s<;>simp
def bm (z:Int) (w:World) (e:Ending) (w':World):Prop:= ∃a c,e= .returned (.agg #[.bool (decide (z<0)),.slice a (len z.natAbs) c])∧Raw w' a (len z.natAbs) c z.natAbs∧Fr w.heap.size a∧Ext w w'
theorem bm.bh {z:Int} {w W w2 w3:World} {e:Ending} (h:bm z W e w2) (hW:Ext w W) (t:Touch w.heap.size W.heap.size w2 w3):bm z w e w3:=by
 obtain ⟨a,c,he,hr,hf,hx⟩:=h;exact ⟨a,c,he,hr.bh t hf.o,hf.mono hW.size,hW.bh hx t⟩
def br (q:Rat) (w:World) (e:Ending) (w':World):Prop:= ∃a c a' c',e= .returned (.agg #[.bool (decide (q.num<0)),.slice a (len q.num.natAbs) c,.slice a' (len q.den) c'])∧
 Raw w' a (len q.num.natAbs) c q.num.natAbs∧Fr w.heap.size a∧Raw w' a' (len q.den) c' q.den∧Fr w.heap.size a'∧Ext w w'
theorem br.bh {q:Rat} {w W w2 w3:World} {e:Ending} (h:br q W e w2) (hW:Ext w W) (t:Touch w.heap.size W.heap.size w2 w3):br q w e w3:=by
 obtain ⟨a,c,a',c',he,hr,hf,qB,hf',hx⟩:=h;exact ⟨a,c,a',c',he,hr.bh t hf.o,hf.mono hW.size,qB.bh t hf'.o,hf'.mono hW.size,hW.bh hx t⟩
theorem n4:len 1=1:=EG (by decide) (by decide)
theorem gm (x:Int) (y:Nat) (h:0<y):(mkRat x y).num.natAbs=x.natAbs/Nat.gcd y x.natAbs:=by
 rw [Rat.num_mkRat,if_neg (by omega),Int.natAbs_ediv_of_dvd (Int.ofNat_dvd_left.2 (Nat.gcd_dvd_right _ _)),Int.natAbs_natCast]
theorem kS (x:Int) (y:Nat) (h:0<y):(mkRat x y).den=y/Nat.gcd y x.natAbs:=by
 rw [Rat.den_mkRat,if_neg (by omega)]
theorem br.base {q:Rat} {W w1 w2:World} {e:Ending} (h:br q w1 e w2) (hx:Ext W w1):br q W e w2:=by
 obtain ⟨a,c,a',c',he,hr,hf,qB,hf',nY⟩:=h;exact ⟨a,c,a',c',he,hr,hf.mono hx.size,qB,hf'.mono hx.size,hx.trans nY⟩
def mR (q:Rat):Nat:=max (len q.num.natAbs) (len q.den)
theorem lL (q:Rat):len q.num.natAbs≤mR q:=Nat.le_max_left _ _
theorem lM (q:Rat):len q.den≤mR q:=Nat.le_max_right _ _
theorem oW (x:Int) (y:Nat):mR (mkRat x y)≤max (max (len x.natAbs) (len y)) 1:=by
 unfold mR;by_cases h:0<y
 ·rw [gm _ _ h,kS _ _ h]
  have h1:=cM (Nat.div_le_self x.natAbs (Nat.gcd y x.natAbs));have h2:=cM (Nat.div_le_self y (Nat.gcd y x.natAbs));omega
 ·obtain rfl:y=0:=by omega
  rw [Rat.mkRat_zero];show max (len 0) (len 1)≤_;rw [kQ,n4];omega
structure fG where
 s:Bool
 a:Option Addr
 k:Nat
 c:Nat
 b:Option Addr
 j:Nat
 d:Nat
def fG.cells (r:fG):List Value:= [.bool r.s,.slice r.a r.k r.c,.slice r.b r.j r.d]
def ij (w:World) (r:fG) (q:Rat) (L:Nat):Prop:= ∃n m,Raw w r.a r.k r.c n∧Raw w r.b r.j r.d m∧q=mkRat (aZ r.s n) m∧len n≤L∧len m≤L
theorem ij.ext {w w':World} {r:fG} {q:Rat} {L:Nat} (h:ij w r q L) (e:Ext w w'):ij w' r q L:=by
 obtain ⟨n,m,h1,h2,h3⟩:=h;exact ⟨n,m,h1.ext e,h2.ext e,h3⟩
theorem ij.mono {w:World} {r:fG} {q:Rat} {L L':Nat} (h:ij w r q L) (hl:L≤L'):ij w r q L':=by
 obtain ⟨n,m,h1,h2,h3,h4,h5⟩:=h;exact ⟨n,m,h1,h2,h3,by omega,by omega⟩
theorem ij.mR {w:World} {r:fG} {q:Rat} {L:Nat} (h:ij w r q L):mR q≤max L 1:=by
 obtain ⟨n,m,h1,h2,rfl,h4,h5⟩:=h;have:=oW (aZ r.s n) m;rw [bF]at this;omega
structure gA (w:World) (r:fG) (q:Rat) (B:Nat):Prop where
 s:r.s=decide (q.num<0)
 k:r.k=len q.num.natAbs
 j:r.j=len q.den
 num:Raw w r.a r.k r.c q.num.natAbs
 den:Raw w r.b r.j r.d q.den
 fa:Fr B r.a
 fb:Fr B r.b
theorem gA.ext {w w':World} {r:fG} {q:Rat} {B:Nat} (h:gA w r q B) (e:Ext w w'):gA w' r q B:=⟨h.s,h.k,h.j,h.num.ext e,h.den.ext e,h.fa,h.fb⟩
theorem gA.mono {w:World} {r:fG} {q:Rat} {B B':Nat} (h:gA w r q B) (e:B'≤B):gA w r q B':=⟨h.s,h.k,h.j,h.num,h.den,h.fa.mono e,h.fb.mono e⟩
theorem gA.setCell {w:World} {r:fG} {q:Rat} {B:Nat} (h:gA w r q B) (p:Addr) (v:Value) (hp:p.block<B):gA (w.setCell p v) r q B:=
 ⟨h.s,h.k,h.j,h.num.setCell _ _ (h.fa.ne hp),h.den.setCell _ _ (h.fb.ne hp),h.fa,h.fb⟩
structure mS (w:World) (a:Option Addr) (c:Nat) (rs:List fG) (qs:List Rat) (L:Nat):Prop where
 len:qs.length=rs.length
 le:rs.length≤c
 cap:c≤9223372036854775807
 short:rs.length≤1099511627776
 cell: ∀i (h:i<rs.length),∃b o,a=some ⟨b,o,none⟩∧w.cell? ⟨b,o+i*3,none⟩=some (.bool rs[i].s)∧w.cell? ⟨b,o+i*3+1,none⟩=some (.slice rs[i].a rs[i].k rs[i].c)∧w.cell? ⟨b,o+i*3+2,none⟩=some (.slice rs[i].b rs[i].j rs[i].d)
 num: ∀i (h:i<rs.length),ij w rs[i] (qs[i]'(by omega)) L
theorem mS.ext {w w':World} {a:Option Addr} {c:Nat} {rs:List fG} {qs:List Rat} {L:Nat} (h:mS w a c rs qs L) (e:Ext w w'):mS w' a c rs qs L:=
 ⟨h.len,h.le,h.cap,h.short,fun i hi=>by
   obtain ⟨b,o,ha,h0,h1,h2⟩:=h.cell i hi;exact ⟨b,o,ha,ak e h0,ak e h1,ak e h2⟩,fun i hi=>(h.num i hi).ext e⟩
theorem mS.at {w:World} {a:Option Addr} {c:Nat} {rs:List fG} {qs:List Rat} {L:Nat} (h:mS w a c rs qs L) (h0:0<rs.length): ∃b o,a=some ⟨b,o,none⟩:=by
 obtain ⟨b,o,ha,_⟩:=h.cell 0 h0;exact ⟨b,o,ha⟩
theorem Tryz.info_int:(Tryz.prog.info? 3).map (fun i=>(i.zero,i.size,i.bytes))=some (some (.int .i64 0),1,8):=by kernel_rfl
def ji (l:List Int):List Value:=l.map (Value.int .i64)
theorem ml (l:List Int) (i:Nat) (h:i<l.length):(ji l)[i]?=some (.int .i64 l[i]):=by simp [ji,h]
section
variable{P:Program} (w:World)
theorem uX (base:Nat) (t ty e:TypeId) (i:TypeInfo) (z:Value) (size bytes:Nat) (ht:P.underlying t=some (.slice e)) (hi:P.info? e=some i) (hz:i.zero=some z)
 (hsize:i.size=size) (hby:i.bytes=bytes) (hzs:z.cells.size=size) (hsz:0<size)
 (v:Value) (n:Nat) (xs:List Value) (hown:w.ownsRow base e size v n xs)
 (a:Addr) (m c:Nat) (news:List Value) (hl:news.length=m*size) (hnews: ∀j u,news[j]?=some u→w.cell? (a.add j)=some u) (h1: ∀u∈news,u.oneCell'=true)
 (h63:n+m≤maxLen) (hbytes:(n+m)*bytes≤140737488355328) (hbase:base≤w.heap.size):
 ∃v' w',(Builtin.append_ #[t,t] ty #[v,.slice (some a) m c]).run P w= .ok v' w'∧w'.ownsRow base e size v' (n+m) (xs++news)∧w.grownBy w' v.ownBlock∧w.drawn≤w'.drawn:=by
 obtain ⟨v',w',hr,h2,h3,_⟩:=run_append_own (P:=P) w base t ty e i z size bytes ht hi hz hsize hby hzs hsz v n xs hown a m c news hl hnews h1 h63 hbytes hbase;refine ⟨v',w',hr,h2,h3,?_⟩;subst hsize;subst hby;have NU:n+m≤9223372036854775807:=by simp only [maxLen]at h63;omega
 rcases hown.2 with⟨rfl,rfl⟩|⟨g,cap,cur,rfl,hbg,hg,hnc,hcm,hcs,AH⟩
 ·have hx:xs= []:=List.eq_nil_of_length_eq_zero (by simpa using hown.1)
  subst hx;by_cases hm:m=0
  ·subst hm
   have hn:news= []:=List.eq_nil_of_length_eq_zero (by simpa using hl);subst hn
   have qB:(Builtin.append_ #[t,t] ty #[.slice none 0 0,.slice (some a) 0 c]).run P w= .ok (.slice none 0 0) w:=by
    simp [Builtin.append_,run_underlying ht,sizeOf,typeInfo,hi,Builtin.lenOf,Builtin.firstCells,loadCells,loadCellsFrom]
   rw [qB]at hr;cases hr;exact Nat.le_refl _
  ·have qB:=run_append_nil (P:=P) w t ty e i z ht hi hz a m c news hl hnews (by omega) (by omega) (by have hb:=hbytes;simp only [Nat.zero_add]at hb;omega)
   rw [qB]at hr;cases hr;exact Nat.le_succ _
 ·by_cases hroom:n+m≤cap
  ·have Ib:n*i.size+news.length≤cur.size:=by rw [hl,hcs,←Nat.add_mul];exact Nat.mul_le_mul_right _ hroom
   have qB:=run_append_room (P:=P) w t ty e i ht hi g n cap cur hg a m c news hl hnews h1 hroom Ib;rw [qB]at hr;cases hr;exact Nat.le_refl _
  ·have holds: ∀j u,xs[j]?=some u→w.cell? ((⟨g,0,none⟩:Addr).add j)=some u:=hown.cells (g:=g) rfl
   have qB:=run_append_grow (P:=P) w t ty e i z ht hi hz ⟨g,0,none⟩ n cap xs hown.1 holds a m c news hl hnews (by omega) (by omega) (growslice_fits (by omega) hbytes);rw [qB]at hr;cases hr;exact Nat.le_succ _
theorem jk {ops:Array Oper} {rest:List Oper} {o:Oper} {a:Act} {Q:Exit→Act→World→Prop} (hgd:o.guard=none) (s x:Operand) (t:TypeId)
 (ho:o.op= .call {callee:= .builtin .append,args:= #[s,x],argTypes:= #[t,t]})
 (base:Nat) (e:TypeId) (z:Value) (size bytes:Nat) (ht:P.underlying t=some (.slice e)) (iL:(P.info? e).map (fun i=>(i.zero,i.size,i.bytes))=some (some z,size,bytes)) (hzs:z.cells.size=size) (hsz:0<size)
 (v:Value) (n:Nat) (xs:List Value) (hs:a.eval s=v) (hown:w.ownsRow base e size v n xs)
 (xa:Option Addr) (m c:Nat) (news:List Value) (hx:a.eval x= .slice xa m c) (hl:news.length=m*size) (hnews:0<m→ ∃ad,xa=some ad∧ ∀j u,news[j]?=some u→w.cell? (ad.add j)=some u) (h1: ∀u∈news,u.oneCell'=true)
 (hnil:xa=none→m=0∧c=0)
 (h63:n+m≤1200000000000) (hbytes:bytes≤100) (hbase:base≤w.heap.size)
 (h: ∀v' w',Hid (w'.ownsRow base e size v' (n+m) (xs++news))→Hid (∀a0,Ext a0 w→a0.heap.size≤base→Ext a0 w')→Hid (∀k,k<w.heap.size→some k≠v.ownBlock→w'.heap[k]?=w.heap[k]?)→Hid (w.heap.size≤w'.heap.size)→wpList P ops Q rest (a.put o.dst v') w'):wpList P ops Q (o::rest) a w:=by
 obtain ⟨i,hi,hz,hsize,hby⟩:=info_parts iL;have hlt:=hown.lt;have hb:(n+m)*bytes≤140737488355328:=Nat.le_trans (Nat.mul_le_mul h63 hbytes) (by decide);have ue:n+m≤maxLen:=by unfold maxLen;omega
 cases xa with
 |none=>
  obtain ⟨rfl,rfl⟩:=hnil rfl;have hn:news= []:=List.eq_nil_of_length_eq_zero (by simpa using hl);subst hn;refine wpList_append_own_none hgd s x t ho base e i size ht hi v n xs hs hown hx ?_;exact h v w (ae (by simpa using hown)) (fun _ h _=>h) (fun _ _ _=>rfl) (Nat.le_refl _)
 |some ad=>
  have mU: ∀j u,news[j]?=some u→w.cell? (ad.add j)=some u:=by
   intro j u hu;by_cases hm:0<m
   ·obtain ⟨Wa,e',hh⟩:=hnews hm;cases e';exact hh j u hu
   ·have:news= []:=List.eq_nil_of_length_eq_zero (by rw [hl];have:m=0:=by omega
                                                     simp [this])
    rw [this]at hu;simp at hu
  refine wpList_plain hgd fun K hK=> ?_;obtain ⟨v',w',hr,h2,h3,h4⟩:=uX (P:=P) w base t o.type e i z size bytes ht hi hz hsize hby hzs hsz v n xs hown ad m c news hl mU h1 ue hb hbase;unfold Oper.wp execOp;simp only [ho,resolve,invoke,builtin,Sem.run_bind,Sem.run_pure,Result.andThen_ok,List.map_toArray,List.map_cons,List.map_nil,hs,hx,hr];refine hK _ _ (h v' w' h2 (fun a0 ha hb0=>⟨ha.below.trans ⟨h3.os,h3.tape,h3.output,h3.size,fun k hk=>h3.block k (by have:=ha.size;omega) (fun e'=>by have:=hlt k e'.symm;omega)⟩,Nat.le_trans ha.drawn h4⟩) h3.block h3.size)
end
theorem wS {w:World} {base:Nat} {e:TypeId} {v:Value} {n:Nat} {l:List Nat} (h:w.ownsRow base e 1 v n (cV l)) (hs:Small l) (hc:l.length≤1099511627776):
 ∃a c,v= .slice a n c∧l.length=n∧eG w a c l∧Fr base a:=by
 obtain ⟨h1,h2⟩:=h;rw [ig,Nat.mul_one]at h1;rcases h2 with⟨rfl,rfl⟩|⟨g,cap,cur,rfl,hb,hg,hn,dQ,hcs,AH⟩
 ·have:l= []:=List.eq_nil_of_length_eq_zero h1
  subst this;exact ⟨none,0,rfl,rfl,eG.nil _,Fr.none _⟩
 ·refine ⟨some ⟨g,0,none⟩,cap,rfl,h1,⟨by omega,by unfold maxLen at dQ;omega,hc,(fun e=>by cases e),hs,fun i hi=>⟨g,0,rfl,?_⟩⟩,Fr.some hb⟩
  rw [Nat.zero_add]
  have:cur.toList[i]?=some (.int .u32 (limb l i:Nat)):=by
   have h3:(cur.toList.take (n*1))[i]?=(cV l)[i]?:=by rw [AH]
   rw [et _ _ hi,List.getElem?_take,if_pos (by omega)]at h3;exact h3
  simp only [World.cell?,hg];simpa using this
theorem l9 (w:World) (base:Nat) (e:TypeId) (g:Nat) (hb:base≤g) (hg:aQ w g e []):w.ownsRow base e 1 (.slice (some ⟨g,0,none⟩) 0 0) 0 []:=
 ⟨rfl,.inr ⟨g,0,#[],rfl,hb,hg,Nat.le_refl _,Nat.zero_le _,rfl,rfl⟩⟩
theorem bm.base {z:Int} {W w1 w2:World} {e:Ending} (h:bm z w1 e w2) (hx:Ext W w1):bm z W e w2:=by
 obtain ⟨a,c,he,hr,hf,nY⟩:=h;exact ⟨a,c,he,hr,hf.mono hx.size,hx.trans nY⟩
def ke (s:Bool) (n m:Nat) (w:World) (e:Ending) (w':World):Prop:= ∃a c a' c',e= .returned (.agg #[.bool s,.slice a (len n) c,.slice a' (len m) c'])∧Raw w' a (len n) c n∧Fr w.heap.size a∧Raw w' a' (len m) c' m∧Fr w.heap.size a'∧Ext w w'
def n_ (s:Bool) (n:Nat) (w:World) (e:Ending) (w':World):Prop:= ∃a c,e= .returned (.agg #[.bool s,.slice a (len n) c])∧Raw w' a (len n) c n∧Fr w.heap.size a∧Ext w w'
theorem bm.intOf {z:Int} {w w':World} {e:Ending} (h:bm z w e w'):n_ (decide (z<0)) z.natAbs w e w':=h
theorem ke.base {s:Bool} {n m:Nat} {W w1 w2:World} {e:Ending} (h:ke s n m w1 e w2) (hx:Ext W w1):ke s n m W e w2:=by
 obtain ⟨a,c,a',c',he,hr,hf,qB,hf',nY⟩:=h;exact ⟨a,c,a',c',he,hr,hf.mono hx.size,qB,hf'.mono hx.size,hx.trans nY⟩
def K5 (s:Bool) (n m:Nat) (w:World) (e:Ending) (w':World):Prop:= ∃a c a' c',e= .returned (.tuple #[.agg #[.bool s,.slice a (len n) c,.slice a' (len m) c'],.bool true])∧Raw w' a (len n) c n∧Fr w.heap.size a∧Raw w' a' (len m) c' m∧Fr w.heap.size a'∧Ext w w'
theorem ke.ok {s:Bool} {n m:Nat} {w w':World} {a a':Option Addr} {c c':Nat} (h:ke s n m w (.returned (.agg #[.bool s,.slice a (len n) c,.slice a' (len m) c'])) w'):K5 s n m w (.returned (.tuple #[.agg #[.bool s,.slice a (len n) c,.slice a' (len m) c'],.bool true])) w':=by
 obtain ⟨a1,c1,a2,c2,he,hr,hf,qB,hf',hx⟩:=h;cases he
 exact ⟨_,_,_,_,rfl,hr,hf,qB,hf',hx⟩
theorem ke.bh {s:Bool} {n m:Nat} {w W w2 w3:World} {e:Ending} (h:ke s n m W e w2) (hW:Ext w W) (t:Touch w.heap.size W.heap.size w2 w3):ke s n m w e w3:=by
 obtain ⟨a,c,a',c',he,hr,hf,qB,hf',hx⟩:=h;exact ⟨a,c,a',c',he,hr.bh t hf.o,hf.mono hW.size,qB.bh t hf'.o,hf'.mono hW.size,hW.bh hx t⟩
theorem n_.bh {s:Bool} {n:Nat} {w W w2 w3:World} {e:Ending} (h:n_ s n W e w2) (hW:Ext w W) (t:Touch w.heap.size W.heap.size w2 w3):n_ s n w e w3:=by
 obtain ⟨a,c,he,hr,hf,hx⟩:=h;exact ⟨a,c,he,hr.bh t hf.o,hf.mono hW.size,hW.bh hx t⟩
theorem n_.base {s:Bool} {n:Nat} {W w1 w2:World} {e:Ending} (h:n_ s n w1 e w2) (hx:Ext W w1):n_ s n W e w2:=by
 obtain ⟨a,c,he,hr,hf,nY⟩:=h;exact ⟨a,c,he,hr,hf.mono hx.size,hx.trans nY⟩
def FX (v n:Int):Int:=(v % 18446744073709551616) % n
theorem Ic (w:World) (v n:Int) (_hv1: -9223372036854775808≤v) (_hv2:v<9223372036854775808) (hn:0<n) (EH:n<1000000):
 Calls prog 18 #[.int .i64 v,.int .i64 n] w fun e w'=>e= .returned (.int .i64 (FX v n))∧w=w':=by
 go_enter func18,ntmps18
 go_wp2_with fail
 go_ret;refine ⟨cd ?_,rfl⟩
 have hw:IntKind.u64.wrap v=v % 18446744073709551616:=by
  simp [IntKind.wrap,IntKind.signed,IntKind.bits]
 have h0:0≤v % 18446744073709551616:=Int.emod_nonneg _ (by omega);rw [hw,Int.tmod_eq_emod_of_nonneg h0];have a:=Int.emod_nonneg (v % 18446744073709551616) (show n≠0 by omega);have b:=Int.emod_lt_of_pos (v % 18446744073709551616) hn;unfold FX;generalize v % 18446744073709551616 % n=z at*;unfold wrap64;omega
def od (w:World) (a:Option Addr) (l:List Int):Prop:= ∃b o,a=some ⟨b,o,none⟩∧ ∀i (hi:i<l.length),w.cell? ⟨b,o+i,none⟩=some (.int .i64 l[i])
theorem od.ext {w w':World} {a:Option Addr} {l:List Int} (h:od w a l) (hX:Ext w w'):od w' a l:=by
 obtain ⟨b,o,rfl,hc⟩:=h;exact ⟨b,o,rfl,fun i hi=>(hX.cell (cG (hc i hi))).trans (hc i hi)⟩
section
variable{P:Program} (w:World)
theorem iM (base:Nat) (t ty e:TypeId) (i:TypeInfo) (z:Value) (size bytes:Nat) (ht:P.underlying t=some (.slice e)) (hi:P.info? e=some i) (hz:i.zero=some z)
 (hsize:i.size=size) (hby:i.bytes=bytes) (hzs:z.cells.size=size) (hsz:0<size)
 (v:Value) (n:Nat) (xs:List Value) (hown:w.ownsRow base e size v n xs)
 (a:Addr) (m c:Nat) (news:List Value) (hl:news.length=m*size) (hnews: ∀j u,news[j]?=some u→w.cell? (a.add j)=some u) (h1: ∀u∈news,u.oneCell'=true)
 (h63:n+m≤maxLen) (hbytes:(n+m)*bytes≤140737488355328) (hbase:base≤w.heap.size):
 ∃v' w',(Builtin.append_ #[t,t] ty #[v,.slice (some a) m c]).run P w= .ok v' w'∧w'.ownsRow base e size v' (n+m) (xs++news)∧w.grownBy w' v.ownBlock∧w.drawn≤w'.drawn∧(v'.ownBlock=v.ownBlock∨ ∃g,v'.ownBlock=some g∧w.heap.size≤g):=by
 obtain ⟨v',w',hr,h2,h3,_⟩:=run_append_own (P:=P) w base t ty e i z size bytes ht hi hz hsize hby hzs hsz v n xs hown a m c news hl hnews h1 h63 hbytes hbase;refine ⟨v',w',hr,h2,h3,?_⟩;subst hsize;subst hby;have NU:n+m≤9223372036854775807:=by simp only [maxLen]at h63;omega
 rcases hown.2 with⟨rfl,rfl⟩|⟨g,cap,cur,rfl,hbg,hg,hnc,hcm,hcs,AH⟩
 ·have hx:xs= []:=List.eq_nil_of_length_eq_zero (by simpa using hown.1)
  subst hx;by_cases hm:m=0
  ·subst hm
   have hn:news= []:=List.eq_nil_of_length_eq_zero (by simpa using hl);subst hn
   have qB:(Builtin.append_ #[t,t] ty #[.slice none 0 0,.slice (some a) 0 c]).run P w= .ok (.slice none 0 0) w:=by
    simp [Builtin.append_,run_underlying ht,sizeOf,typeInfo,hi,Builtin.lenOf,Builtin.firstCells,loadCells,loadCellsFrom]
   rw [qB]at hr;cases hr;exact ⟨Nat.le_refl _,.inl rfl⟩
  ·have qB:=run_append_nil (P:=P) w t ty e i z ht hi hz a m c news hl hnews (by omega) (by omega) (by have hb:=hbytes;simp only [Nat.zero_add]at hb;omega)
   rw [qB]at hr;cases hr;exact ⟨Nat.le_succ _,.inr ⟨_,rfl,Nat.le_refl _⟩⟩
 ·by_cases hroom:n+m≤cap
  ·have Ib:n*i.size+news.length≤cur.size:=by rw [hl,hcs,←Nat.add_mul];exact Nat.mul_le_mul_right _ hroom
   have qB:=run_append_room (P:=P) w t ty e i ht hi g n cap cur hg a m c news hl hnews h1 hroom Ib;rw [qB]at hr;cases hr;exact ⟨Nat.le_refl _,.inl rfl⟩
  ·have holds: ∀j u,xs[j]?=some u→w.cell? ((⟨g,0,none⟩:Addr).add j)=some u:=hown.cells (g:=g) rfl
   have qB:=run_append_grow (P:=P) w t ty e i z ht hi hz ⟨g,0,none⟩ n cap xs hown.1 holds a m c news hl hnews (by omega) (by omega) (growslice_fits (by omega) hbytes);rw [qB]at hr;cases hr;exact ⟨Nat.le_succ _,.inr ⟨_,rfl,Nat.le_refl _⟩⟩
theorem bn {ops:Array Oper} {rest:List Oper} {o:Oper} {a:Act} {Q:Exit→Act→World→Prop} (hgd:o.guard=none) (s x:Operand) (t:TypeId)
 (ho:o.op= .call {callee:= .builtin .append,args:= #[s,x],argTypes:= #[t,t]})
 (base:Nat) (e:TypeId) (z:Value) (size bytes:Nat) (ht:P.underlying t=some (.slice e)) (iL:(P.info? e).map (fun i=>(i.zero,i.size,i.bytes))=some (some z,size,bytes)) (hzs:z.cells.size=size) (hsz:0<size)
 (v:Value) (n:Nat) (xs:List Value) (hs:a.eval s=v) (hown:w.ownsRow base e size v n xs)
 (xa:Option Addr) (m c:Nat) (news:List Value) (hx:a.eval x= .slice xa m c) (hl:news.length=m*size) (hnews:0<m→ ∃ad,xa=some ad∧ ∀j u,news[j]?=some u→w.cell? (ad.add j)=some u) (h1: ∀u∈news,u.oneCell'=true)
 (hnil:xa=none→m=0∧c=0)
 (h63:n+m≤1200000000000) (hbytes:bytes≤100) (hbase:base≤w.heap.size)
 (h: ∀v' w',Hid (w'.ownsRow base e size v' (n+m) (xs++news))→Hid (∀a0,Ext a0 w→a0.heap.size≤base→Ext a0 w')→Hid (∀k,k<w.heap.size→some k≠v.ownBlock→w'.heap[k]?=w.heap[k]?)→Hid (w.heap.size≤w'.heap.size)→Hid (v'.ownBlock=v.ownBlock∨ ∃g,v'.ownBlock=some g∧w.heap.size≤g)→wpList P ops Q rest (a.put o.dst v') w'):wpList P ops Q (o::rest) a w:=by
 obtain ⟨i,hi,hz,hsize,hby⟩:=info_parts iL;have hlt:=hown.lt;have hb:(n+m)*bytes≤140737488355328:=Nat.le_trans (Nat.mul_le_mul h63 hbytes) (by decide);have ue:n+m≤maxLen:=by unfold maxLen;omega
 cases xa with
 |none=>
  obtain ⟨rfl,rfl⟩:=hnil rfl;have hn:news= []:=List.eq_nil_of_length_eq_zero (by simpa using hl);subst hn;refine wpList_append_own_none hgd s x t ho base e i size ht hi v n xs hs hown hx ?_;exact h v w (ae (by simpa using hown)) (fun _ h _=>h) (fun _ _ _=>rfl) (Nat.le_refl _) (.inl rfl)
 |some ad=>
  have mU: ∀j u,news[j]?=some u→w.cell? (ad.add j)=some u:=by
   intro j u hu;by_cases hm:0<m
   ·obtain ⟨Wa,e',hh⟩:=hnews hm;cases e';exact hh j u hu
   ·have:news= []:=List.eq_nil_of_length_eq_zero (by rw [hl];have:m=0:=by omega
                                                     simp [this])
    rw [this]at hu;simp at hu
  refine wpList_plain hgd fun K hK=> ?_;obtain ⟨v',w',hr,h2,h3,h4,h5⟩:=iM (P:=P) w base t o.type e i z size bytes ht hi hz hsize hby hzs hsz v n xs hown ad m c news hl mU h1 ue hb hbase;unfold Oper.wp execOp;simp only [ho,resolve,invoke,builtin,Sem.run_bind,Sem.run_pure,Result.andThen_ok,List.map_toArray,List.map_cons,List.map_nil,hs,hx,hr];refine hK _ _ (h v' w' h2 (fun a0 ha hb0=>⟨ha.below.trans ⟨h3.os,h3.tape,h3.output,h3.size,fun k hk=>h3.block k (by have:=ha.size;omega) (fun e'=>by have:=hlt k e'.symm;omega)⟩,Nat.le_trans ha.drawn h4⟩) h3.block h3.size h5)
end
structure aI (w:World) (a:Option Addr) (c:Nat) (xs:List Int):Prop where
 le:xs.length≤c
 cap:c≤9223372036854775807
 cell: ∀i (h:i<xs.length),∃b o,a=some ⟨b,o,none⟩∧w.cell? ⟨b,o+i,none⟩=some (.int .i64 xs[i])
 NV: ∀i (h:i<xs.length),-9223372036854775808≤xs[i]∧xs[i]<9223372036854775808
theorem aI.ext {w w':World} {a:Option Addr} {c:Nat} {xs:List Int} (h:aI w a c xs) (e:Ext w w'):aI w' a c xs:=
 ⟨h.le,h.cap,fun i hi=>by obtain ⟨b,o,ha,hc⟩:=h.cell i hi;exact ⟨b,o,ha,ak e hc⟩,h.NV⟩
theorem CU (v n:Int) (hn:0<n):0≤FX v n∧FX v n<n:=
 ⟨Int.emod_nonneg _ (by omega),Int.emod_lt_of_pos _ hn⟩
theorem bW {w w':World} {base:Nat} {e:TypeId} {s:Nat} {v:Value} {n:Nat} {xs:List Value} (h:w.ownsRow base e s v n xs) (hX:Ext w w'):w'.ownsRow base e s v n xs:=by
 obtain ⟨h1,h2⟩:=h;refine ⟨h1,?_⟩;rcases h2 with h2|⟨g,cap,cur,hv,hb,hg,hr⟩
 ·exact .inl h2
 ·refine .inr ⟨g,cap,cur,hv,hb,?_,hr⟩
  rw [hX.below.block g (Array.getElem?_eq_some_iff.1 hg).1];exact hg
theorem Raw.lt {w:World} {a:Option Addr} {k c n:Nat} (h:Raw w a k c n) (hk:0<k): ∀x,a=some x→x.block<w.heap.size:=by
 intro x hx;obtain ⟨l,e1,e2,e3⟩:=h;obtain ⟨b',o,ha,hc⟩:=e3.cell 0 (by omega);have:=cG hc;rw [hx]at ha;cases ha
 exact this
theorem aI.at {w:World} {a:Option Addr} {c:Nat} {xs:List Int} (h:aI w a c xs) (h0:0<xs.length): ∃b o,a=some ⟨b,o,none⟩:=by
 obtain ⟨b,o,ha,_⟩:=h.cell 0 h0;exact ⟨b,o,ha⟩
theorem dD (w:World) (T:TypeId) (vs:List Value): ∀j u,vs[j]?=some u→(w.alloc (.cells vs.toArray T)).cell? (Addr.add ⟨w.heap.size,0,none⟩ j)=some u:=by
 intro j u hu;rw [show(Addr.add ⟨w.heap.size,0,none⟩ j)=⟨w.heap.size,0+j,none⟩from by unfold Addr.add;split<;>simp_all,Nat.zero_add,(aQ.alloc w T vs).cell];exact hu
theorem gA.short {w:World} {r:fG} {q:Rat} {B L:Nat} (h:gA w r q B) (hl:mR q≤L):r.k≤L∧r.j≤L:=by
 have h1:=lL q;have h2:=lM q;rw [h.k,h.j];omega
open Go
section
variable{P:Program} {ops:Array Oper} {Q:Exit→Act→World→Prop} {md:Region.Mode} {S:World→Prop} {Z:Nat→Bool}
def uY (md:Region.Mode) (ops:Array Oper) (Z:Nat→Bool) (i:Nat):Bool:=
 (List.range ops.size).all fun j=> !Z j||(match ops[j]? with|some o=>o.after.toList.any (fun e=>Region.binds md e&&e.on==i)|none=>true)
theorem AJ {i:Nat} (h:uY md ops Z i=true): ∀j oj,ops[j]?=some oj→Z j=true→ ∃e∈oj.after,Region.binds md e=true∧e.on=i:=by
 intro j oj hj hz;have hl:j<ops.size:=(Array.getElem?_eq_some_iff.1 hj).1;have h1:=List.all_eq_true.1 h j (List.mem_range.2 hl);rw [hz,hj]at h1;simp only [Bool.not_true,Bool.false_or]at h1;obtain ⟨e,he,h2⟩:=List.any_eq_true.1 h1;simp only [Bool.and_eq_true,beq_iff_eq]at h2;exact ⟨e,Array.mem_toList_iff.1 he,h2.1,h2.2⟩
theorem _root_.Go.Shut.o {p:Prop} (h:Go.Shut p):p:=h
end
def upd (m:Int→Int) (k v:Int):Int→Int:=fun x=>if x=k then v else m x
theorem Ie (m:Int→Int) (k v:Int):upd m k v k=v:=by simp [upd]
theorem FY (m:Int→Int) (k v x:Int) (h:x≠k):upd m k v x=m x:=by simp [upd,h]
open Go.Maps Go.ChangeMaps Go.MapKept
theorem Tryz.keyI:Keyed Tryz.prog 3:=int_keyed Tryz.underlying3
def bB (k:Int):Prop:= -9223372036854775808≤k∧k<9223372036854775808
theorem bB.wf {k:Int} (h:bB k):(Lit.int .i64 k).wf=true:=by
 obtain ⟨h1,h2⟩:=h;simp [Lit.wf,IntKind.min,IntKind.max,IntKind.signed,IntKind.bits];omega
structure wT (b:Nat) (w w':World):Prop where
 os:w'.os=w.os
 tape:w'.tape=w.tape
 output:w'.output=w.output
 drawn:w.drawn≤w'.drawn
 size:w'.heap.size=w.heap.size
 block: ∀k,k≠b→w'.heap[k]?=w.heap[k]?
theorem wT.ext {b:Nat} {w0 w w':World} (t:wT b w w') (h:Ext w0 w) (hb:w0.heap.size≤b):Ext w0 w':=
 ⟨⟨t.os.trans h.below.os,t.tape.trans h.below.tape,t.output.trans h.below.output,by rw [t.size];exact h.size,fun k hk=>by rw [t.block k (by omega)];exact h.below.block k hk⟩,Nat.le_trans h.drawn t.drawn⟩
theorem wT.cell {b:Nat} {w w':World} (t:wT b w w') {p:Addr} {v:Value} (hp:p.block≠b) (h:w.cell? p=some v):w'.cell? p=some v:=by
 unfold World.cell? at*;rw [t.block _ hp];exact h
theorem AK {b:Nat} {w w':World} (h:w.mapTurned w' b):wT b w w':=by
 have g:=h.grown;obtain ⟨es,clock,es',clock',hb,rfl⟩:=h;exact ⟨rfl,rfl,rfl,Nat.le_refl _,by simp [setBlock],fun k hk=>heap_setBlock_other hb _ hk⟩
def mm (w:World) (b n:Nat) (K:Int→Prop) (f:Int→Int):Prop:=
 ∃D:DataW Unit,w.ownsMap prog 3 (plainElem prog 3) b n D∧(∀k,(Maps.has D (.int .i64 k)=true↔K k))∧ ∀k,D.atKey (.int .i64 k) (.lit (.int .i64 0))= .lit (.int .i64 (f k))
theorem mm.lt {w:World} {b n:Nat} {K:Int→Prop} {f:Int→Int} (h:mm w b n K f):b<w.heap.size:=by obtain ⟨D,h1,_⟩:=h;exact h1.lt
theorem mm.same {w w':World} {b n:Nat} {K:Int→Prop} {f:Int→Int} (h:mm w b n K f) (e:w'.heap[b]?=w.heap[b]?):mm w' b n K f:=by
 obtain ⟨D,⟨es,clock,hb,r⟩,h2⟩:=h;exact ⟨D,⟨es,clock,by rw [e];exact hb,r⟩,h2⟩
theorem mm.ext {w w':World} {b n:Nat} {K:Int→Prop} {f:Int→Int} (h:mm w b n K f) (e:Ext w w'):mm w' b n K f:=h.same (e.below.block b h.lt)
theorem mm.setCell {w:World} {b n:Nat} {K:Int→Prop} {f:Int→Int} (h:mm w b n K f) (p:Addr) (v:Value) (hp:b≠p.block):mm (w.setCell p v) b n K f:=h.same (Below.heap_setCell _ _ _ _ (by omega))
theorem Ig {k:Int}:WideAt.IsKeyLit (.int .i64 k):=trivial
theorem int_ne {k x:Int} (h:x≠k):Lit.int .i64 x≠Lit.int .i64 k:=fun e=>h (by cases e;rfl)
theorem mm.store {w:World} {b n:Nat} {K:Int→Prop} {f:Int→Int} (h:mm w b n K f) (hn:n<1000000) {k v:Int} (hk:bB k) (hv:bB v):
 ∃w',(Instr.mapUpdate 181 (.map (some b)) (.int .i64 k) (.int .i64 v)).run prog w= .ok () w'∧mm w' b (n+1) (fun x=>x=k∨K x) (upd f k v)∧wT b w w':=by
 obtain ⟨D,h1,h2,h3⟩:=h;obtain ⟨w',hr,ho,ht⟩:=h1.store Tryz.keyI underlying181 (by unfold maxLen;omega) (keyOf_int_mk underlying3 hk.wf) (plainElem_int underlying3 hv.wf);have hm:=h1.isMap;refine ⟨w',hr,⟨_,ho,fun x=> ?_,fun x=> ?_⟩,AK ht⟩
 ·by_cases hx:x=k
  ·subst hx
   rw [has_put_same hm Ig];simp
  ·rw [has_put_other (int_ne hx),h2 x]
   simp [hx]
 ·by_cases hx:x=k
  ·subst hx
   rw [atKey_put_same hm Ig,Ie]
  ·rw [atKey_put_other (int_ne hx),h3 x,FY _ _ _ _ hx]
def jl (w w':World):Prop:= ∀p v,w.cell? p=some v→w'.cell? p=some v
theorem jl.refl (w:World):jl w w:=fun _ _ h=>h
theorem jl.trans {a b c:World} (h:jl a b) (k:jl b c):jl a c:=fun p v e=>k p v (h p v e)
theorem Ext.keeps {w w':World} (h:Ext w w'):jl w w':=fun _ _ e=>ak h e
theorem mm.K6 {w:World} {b n:Nat} {K:Int→Prop} {f:Int→Int} (h:mm w b n K f) {p:Addr} {v:Value} (e:w.cell? p=some v):p.block≠b:=by
 obtain ⟨D,⟨es,clock,hb,_⟩,_⟩:=h;intro hp;unfold World.cell? at e;rw [hp,hb]at e;simp at e
theorem eG.keeps {w w':World} {a:Option Addr} {c:Nat} {l:List Nat} (h:eG w a c l) (k:jl w w'):eG w' a c l:=
 ⟨h.le,h.cap,h.short,h.Ia,h.small,fun i hi=>by obtain ⟨b,o,ha,hc⟩:=h.cell i hi;exact ⟨b,o,ha,k _ _ hc⟩⟩
theorem Raw.keeps {w w':World} {a:Option Addr} {k c n:Nat} (h:Raw w a k c n) (e:jl w w'):Raw w' a k c n:=by
 obtain ⟨l,h1,h2,h3⟩:=h;exact ⟨l,h1,h2,h3.keeps e⟩
theorem ij.keeps {w w':World} {r:fG} {q:Rat} {L:Nat} (h:ij w r q L) (e:jl w w'):ij w' r q L:=by
 obtain ⟨n,m,h1,h2,h3⟩:=h;exact ⟨n,m,h1.keeps e,h2.keeps e,h3⟩
theorem gA.keeps {w w':World} {r:fG} {q:Rat} {B:Nat} (h:gA w r q B) (e:jl w w'):gA w' r q B:=⟨h.s,h.k,h.j,h.num.keeps e,h.den.keeps e,h.fa,h.fb⟩
theorem mS.keeps {w w':World} {a:Option Addr} {c:Nat} {rs:List fG} {qs:List Rat} {L:Nat} (h:mS w a c rs qs L) (e:jl w w'):mS w' a c rs qs L:=
 ⟨h.len,h.le,h.cap,h.short,fun i hi=>by obtain ⟨b,o,ha,c0,c1,c2⟩:=h.cell i hi;exact ⟨b,o,ha,e _ _ c0,e _ _ c1,e _ _ c2⟩,fun i hi=>(h.num i hi).keeps e⟩
theorem aI.keeps {w w':World} {a:Option Addr} {c:Nat} {xs:List Int} (h:aI w a c xs) (e:jl w w'):aI w' a c xs:=
 ⟨h.le,h.cap,fun i hi=>by obtain ⟨b,o,ha,hc⟩:=h.cell i hi;exact ⟨b,o,ha,e _ _ hc⟩,h.NV⟩
structure ar (b:Nat) (w w':World):Prop where
 os:w'.os=w.os
 tape:w'.tape=w.tape
 output:w'.output=w.output
 drawn:w.drawn≤w'.drawn
 size:w.heap.size≤w'.heap.size
 block: ∀k,k<w.heap.size→k≠b→w'.heap[k]?=w.heap[k]?
theorem ar.refl (b:Nat) (w:World):ar b w w:=⟨rfl,rfl,rfl,Nat.le_refl _,Nat.le_refl _,fun _ _ _=>rfl⟩
theorem Ext.but {w w':World} (h:Ext w w') (b:Nat):ar b w w':=⟨h.below.os,h.below.tape,h.below.output,h.drawn,h.size,fun k hk _=>h.below.block k hk⟩
theorem wT.but {b:Nat} {w w':World} (t:wT b w w'):ar b w w':=⟨t.os,t.tape,t.output,t.drawn,by rw [t.size];exact Nat.le_refl _,fun k _ hk=>t.block k hk⟩
theorem ar.trans {b:Nat} {w w1 w2:World} (h:ar b w w1) (k:ar b w1 w2):ar b w w2:=
 ⟨k.os.trans h.os,k.tape.trans h.tape,k.output.trans h.output,Nat.le_trans h.drawn k.drawn,Nat.le_trans h.size k.size,fun x hx hb=>by rw [k.block x (Nat.lt_of_lt_of_le hx h.size) hb];exact h.block x hx hb⟩
theorem ar.ext {b:Nat} {w0 w w':World} (k:ar b w w') (h:Ext w0 w) (hb:w0.heap.size≤b):Ext w0 w':=
 ⟨⟨k.os.trans h.below.os,k.tape.trans h.below.tape,k.output.trans h.below.output,Nat.le_trans h.size k.size,fun x hx=>by rw [k.block x (Nat.lt_of_lt_of_le hx h.size) (by omega)];exact h.below.block x hx⟩,Nat.le_trans h.drawn k.drawn⟩
theorem ar.setCell {b:Nat} {w w':World} (h:ar b w w') {p:Addr} (hp:w.heap.size≤p.block) (v:Value):ar b w (w'.setCell p v):=
 ⟨h.os,h.tape,h.output,h.drawn,by simpa [World.setCell]using h.size,fun k hk hb=>by rw [Below.heap_setCell _ _ _ _ (by omega)];exact h.block k hk hb⟩
theorem ar.keeps {b n:Nat} {w w':World} {K:Int→Prop} {f:Int→Int} (h:ar b w w') (hm:mm w b n K f):jl w w':=by
 intro p v e;have h1:=hm.K6 e;have h2:=cG e;unfold World.cell? at*;rw [h.block _ h2 h1];exact e
def jG (l:List Int) (i:Nat):Int:=l[i]?.getD 0
theorem kt {l:List Int} {i:Nat} (h:i<l.length):jG l i=l[i]:=by unfold jG;rw [List.getElem?_eq_getElem h];rfl
end Go.Proofs.YtkpngkdgphojlaaGreat
