/- Texts of the proof. -/
import Derived.KernelRfl
import Derived.WalkKit
import Derived.WalkSpells
import Derived.Sort.Grow
import Derived.Lib.Hide
import Derived.Laws.CopyOwn
import Derived.Laws.BitsAllLaws
import Derived.Deep.QuietTactic
import Derived.BigQuiet
import Derived.Test.YtkpngkdgphojlaaGreatProg
import Derived.WalkLawsBesides
import Derived.Deep.RegionWith
import Derived.Deep.RegionHeld3
import Derived.Lib.Strings
import Derived.Lib.Slices
import Derived.Lib.Small
import Derived.Lib.Walk
import Derived.Lib.BitFns
import Derived.Deep.DeepCutAuto
import Derived.Deep.CutBlock
import Derived.IntWalk
import Derived.Deep.LoopGhost
import Derived.Laws.AppendOwnNone
import Derived.ProofKit
import Derived.OpenShut
import Derived.ShutString
import Derived.ChangeOld
import Derived.Below
import Derived.Deep.RegionHeld
import Derived.Deep.Slices
import Derived.Maps.RangeWalk
import Derived.Maps.OwnSet
import Derived.Maps.OwnOps
import Derived.Maps.Views
import Derived.Lib.MinMax
set_option linter.all false
namespace Go.Proofs.YtkpngkdgphojlaaGreat
open Go.Proofs.Tryz
theorem _root_.Go.RowKit.Hid.o {p:Prop} (h:Go.RowKit.Hid p):p:=h
theorem ae {p:Prop} (h:p):Go.RowKit.Hid p:=h
def val:List Nat→Nat
 | []=>0
 |x::xs=>x+4294967296*val xs
def Small (l:List Nat):Prop:= ∀x∈l,x<4294967296
theorem Small.tail {x:Nat} {l:List Nat} (h:Small (x::l)):Small l:=fun y hy=>h y (List.mem_cons_of_mem _ hy)
theorem Small.take {l:List Nat} (h:Small l) (k:Nat):Small (l.take k):=fun y hy=>h y (List.mem_of_mem_take hy)
theorem Small.drop {l:List Nat} (h:Small l) (k:Nat):Small (l.drop k):=fun y hy=>h y (List.mem_of_mem_drop hy)
theorem Small.nil:Small []:=fun _ h=>by cases h
theorem Small.append {l m:List Nat} (h:Small l) (h':Small m):Small (l++m):=fun y hy=>by
 rcases List.mem_append.1 hy with h1|h1
 ·exact h y h1
 ·exact h' y h1
theorem Small.one {x:Nat} (h:x<4294967296):Small [x]:=fun y hy=>by
 simp at hy;omega
theorem Small.set {l:List Nat} (h:Small l) (k x:Nat) (hx:x<4294967296):Small (l.set k x):=fun y hy=>by
 rcases List.mem_or_eq_of_mem_set hy with h1|h1
 ·exact h y h1
 ·omega
theorem Small.replicate (n:Nat):Small (List.replicate n 0):=fun y hy=>by
 have:=List.eq_of_mem_replicate hy;omega
theorem lL (l m:List Nat):val (l++m)=val l+4294967296^l.length*val m:=by
 induction l with
 |nil=>simp [val]
 |cons x xs ih=>
  simp only [List.cons_append,val,ih,List.length_cons,Nat.pow_succ,Nat.mul_add,Nat.add_assoc];rw [←Nat.mul_assoc,Nat.mul_comm 4294967296 (4294967296^xs.length)]
theorem kJ {l:List Nat} (h:Small l):val l<4294967296^l.length:=by
 induction l with
 |nil=>simp [val]
 |cons x xs ih=>
  have h1:=ih h.tail;have h2:=h x (List.mem_cons_self ..);simp only [val,List.length_cons,Nat.pow_succ];generalize 4294967296^xs.length=p at*;omega
def limb (l:List Nat) (i:Nat):Nat:=l[i]?.getD 0
theorem oz (l:List Nat) (k:Nat) (h:k≤l.length):val l=val (l.take k)+4294967296^k*val (l.drop k):=by
 conv=>lhs;rw [←List.take_append_drop k l]
 rw [lL,List.length_take,Nat.min_eq_left h]
theorem qO {l:List Nat} {k i:Nat} (h:i<k):limb (l.take k) i=limb l i:=by
 unfold limb;rw [List.getElem?_take,if_pos h]
def len (n:Nat):Nat:=if n=0 then 0 else n.log2/32+1
theorem pow_eq (k:Nat):(4294967296:Nat)^k=2^(32*k):=by
 rw [show(4294967296:Nat)=2^32 from by decide,←Nat.pow_mul]
theorem cj {n k:Nat}:len n≤k↔n<4294967296^k:=by
 unfold len;rw [pow_eq];by_cases h:n=0
 ·subst h;simp [Nat.two_pow_pos]
 ·rw [if_neg h,←Nat.log2_lt h];omega
theorem uh:len 0=0:=rfl
theorem i9 (n:Nat):n<4294967296^len n:=cj.1 (Nat.le_refl _)
theorem dJ {m n:Nat} (h:m≤n):len m≤len n:=cj.2 (Nat.lt_of_le_of_lt h (i9 n))
theorem KB {n:Nat} (h:0<n) (h':n<4294967296):len n=1:=by
 have h1:= @cj n 1;have h2:= @cj n 0;simp at h1 h2;omega
theorem oN {l:List Nat} (h:Small l):len (val l)≤l.length:=cj.2 (kJ h)
theorem ui {l:List Nat} (_h:Small l) {k:Nat} (hk:k≤l.length) (hn:len (val l)≤k):val (l.take k)=val l:=by
 have h1:=oz l k hk;have h2:=cj.1 hn
 have h3:val (l.drop k)=0:=by
  apply Nat.eq_zero_of_not_pos;intro h4;have:4294967296^k*1≤4294967296^k*val (l.drop k):=Nat.mul_le_mul_left _ h4;omega
 rw [h1,h3];simp
open Go.RowKit Go.Sort
structure Ext (w w':World):Prop where
 below:Below w.heap.size w w'
 drawn:w.drawn≤w'.drawn
theorem Ext.refl (w:World):Ext w w:=⟨Below.refl _ _,Nat.le_refl _⟩
theorem Ext.size {w w':World} (h:Ext w w'):w.heap.size≤w'.heap.size:=h.below.size
theorem Ext.trans {a b c:World} (h:Ext a b) (k:Ext b c):Ext a c:=⟨h.below.trans (k.below.mono h.size),Nat.le_trans h.drawn k.drawn⟩
theorem Ext.alloc {a w:World} (h:Ext a w) (o:Obj):Ext a (w.alloc o):=⟨h.below.alloc h.size o,h.drawn⟩
theorem Ext.drew {a w:World} (h:Ext a w):Ext a w.drew:=⟨h.below.drew,Nat.le_succ_of_le h.drawn⟩
theorem Ext.drewN {a w:World} (h:Ext a w) (n:Nat):Ext a (w.drewN n):=⟨⟨h.below.os,h.below.tape,h.below.output,h.below.size,h.below.block⟩,Nat.le_trans h.drawn (Nat.le_add_right _ _)⟩
theorem Ext.setCell {a w:World} (h:Ext a w) {p:Addr} (hp:a.heap.size≤p.block) (u:Value):Ext a (w.setCell p u):=⟨h.below.setCell hp u,h.drawn⟩
theorem Ext.cell {w w':World} (h:Ext w w') {p:Addr} (hp:p.block<w.heap.size):w'.cell? p=w.cell? p:=h.below.cell hp
theorem Ext.frozen {w w':World} (h:Ext w w') {p:Addr} (hp:p.block<w.heap.size):w'.frozen? p=w.frozen? p:=h.below.frozen hp
theorem Ext.grow {w w':World} (h:Ext w w'): ∃q os,w'=Sort.grow (w.drewN q) os:=by
 obtain ⟨⟨h1,h2,h3,h4,h5⟩,h6⟩:=h;refine ⟨w'.drawn-w.drawn,w'.heap.extract w.heap.size w'.heap.size,?_⟩
 have hh:w'.heap=w.heap++w'.heap.extract w.heap.size w'.heap.size:=by
  apply Array.ext_getElem?;intro k;rw [Array.getElem?_append];by_cases hk:k<w.heap.size
  ·rw [if_pos hk,h5 k hk]
  ·rw [if_neg hk,Array.getElem?_extract]
   by_cases vV:k<w'.heap.size
   ·rw [if_pos (by omega)];congr 1;omega
   ·rw [if_neg (by omega)];exact Array.getElem?_eq_none (by omega)
 cases w' with
 |mk heap' tape' Vr os' T_=>
  cases w with
  |mk heap tape drawn os output=>
   simp only at h1 h2 h3 h4 h6 hh;subst h1 h2 h3;simp only [Sort.grow,World.drewN,World.mk.injEq,true_and,and_true];exact ⟨hh,by omega⟩
def Quiet (w w':World):Prop:= ∃q,w'=w.drewN q
theorem Quiet.refl (w:World):Quiet w w:=⟨0,rfl⟩
theorem Quiet.trans {a b c:World} (h:Quiet a b) (k:Quiet b c):Quiet a c:=by
 obtain ⟨q,rfl⟩:=h;obtain ⟨r,rfl⟩:=k;exact ⟨q+r,by simp [World.drewN,Nat.add_assoc]⟩
theorem Quiet.drewN {a b:World} (h:Quiet a b) (q:Nat):Quiet a (b.drewN q):=h.trans ⟨q,rfl⟩
theorem Quiet.drew {a b:World} (h:Quiet a b):Quiet a b.drew:=h.trans ⟨1,rfl⟩
theorem Quiet.ext {a b:World} (h:Quiet a b):Ext a b:=by obtain ⟨q,rfl⟩:=h;exact (Ext.refl _).drewN q
theorem bm {w:World} {p:Addr} {v:Value} (h:w.cell? p=some v):p.block<w.heap.size:=by
 unfold World.cell? at h;by_cases hb:p.block<w.heap.size
 ·exact hb
 ·rw [Array.getElem?_eq_none (by omega)]at h;simp at h
structure ep (w:World) (a:Option Addr) (c:Nat) (l:List Nat):Prop where
 le:l.length≤c
 cap:c≤9223372036854775807
 short:l.length≤1099511627776
 GJ:a=none→c=0
 small:Small l
 cell: ∀i,i<l.length→ ∃b o,a=some ⟨b,o,none⟩∧w.cell? ⟨b,o+i,none⟩=some (.int .u32 (limb l i:Nat))
def Raw (w:World) (a:Option Addr) (k c n:Nat):Prop:= ∃l,l.length=k∧val l=n∧ep w a c l
def aJ (w:World) (b:Nat) (T:TypeId) (vs:List Value):Prop:=w.heap[b]?=some (.cells vs.toArray T (0,0))
theorem aJ.lt {w:World} {b:Nat} {T:TypeId} {vs:List Value} (h:aJ w b T vs):b<w.heap.size:=(Array.getElem?_eq_some_iff.1 h).1
theorem aJ.cell {w:World} {b:Nat} {T:TypeId} {vs:List Value} (h:aJ w b T vs) (i:Nat):w.cell? ⟨b,i,none⟩=vs[i]?:=by
 simp [World.cell?,show w.heap[b]?=_ from h]
theorem aJ.cl {w:World} {b:Nat} {T:TypeId} {vs:List Value} (h:aJ w b T vs) (i:Nat) (v:Value) (hv:vs[i]?=some v):w.cell? ⟨b,i,none⟩=some v:=(h.cell i).trans hv
theorem aJ.frozen {w:World} {b:Nat} {T:TypeId} {vs:List Value} (h:aJ w b T vs) (i:Nat):w.frozen? ⟨b,i,none⟩=false:=by
 simp [World.frozen?,show w.heap[b]?=_ from h]
theorem aJ.ext {w w':World} {b:Nat} {T:TypeId} {vs:List Value} (h:aJ w b T vs) (e:Ext w w'):aJ w' b T vs:=by
 unfold aJ;rw [e.below.block b h.lt];exact h
theorem aJ.below {B:Nat} {w w':World} {b:Nat} {T:TypeId} {vs:List Value} (h:aJ w b T vs) (e:Below B w w') (hb:b<B):aJ w' b T vs:=by
 unfold aJ;rw [e.block b hb];exact h
theorem aJ.set {w:World} {b:Nat} {T:TypeId} {vs:List Value} (h:aJ w b T vs) (i:Nat) (v:Value):aJ (w.setCell ⟨b,i,none⟩ v) b T (vs.set i v):=by
 unfold aJ World.setCell;simp [Array.getElem?_modify,show w.heap[b]?=_ from h]
theorem aJ.other {w:World} {b:Nat} {T:TypeId} {vs:List Value} (h:aJ w b T vs) (p:Addr) (v:Value) (hp:p.block≠b):aJ (w.setCell p v) b T vs:=by
 unfold aJ;rw [Below.heap_setCell _ _ _ _ (by omega)];exact h
theorem aJ.alloc (w:World) (T:TypeId) (vs:List Value):aJ (w.alloc (.cells vs.toArray T)) w.heap.size T vs:=by
 unfold aJ World.alloc;simp
theorem aj {W w1:World} (hx:Ext W w1) {p:Addr} {v:Value} (h:W.cell? p=some v):w1.cell? p=some v:=by rw [hx.cell (bm h)];exact h
theorem G7 {W w1:World} (hx:Ext W w1) {p:Addr} {v:Value} (h:W.cell? p=some v) (hf:W.frozen? p=false):w1.frozen? p=false:=by rw [hx.frozen (bm h)];exact hf
theorem aG {W w1:World} {b:Nat} {T:TypeId} {v0 v1:Value} (h:aJ W b T [v0,v1]) (hx:Ext W w1):
 w1.cell? ⟨b,0,none⟩=some v0∧w1.cell? ⟨b,1,none⟩=some v1∧w1.frozen? ⟨b,0,none⟩=false∧w1.frozen? ⟨b,1,none⟩=false:=
 ⟨(h.ext hx).cell 0,(h.ext hx).cell 1,(h.ext hx).frozen 0,(h.ext hx).frozen 1⟩
theorem aC {W w1:World} {b:Nat} {T:TypeId} {v0 v1 v2:Value} (h:aJ W b T [v0,v1,v2]) (hx:Ext W w1):
 w1.cell? ⟨b,0,none⟩=some v0∧w1.cell? ⟨b,1,none⟩=some v1∧w1.cell? ⟨b,2,none⟩=some v2∧w1.frozen? ⟨b,0,none⟩=false∧w1.frozen? ⟨b,1,none⟩=false∧w1.frozen? ⟨b,2,none⟩=false:=
 ⟨(h.ext hx).cell 0,(h.ext hx).cell 1,(h.ext hx).cell 2,(h.ext hx).frozen 0,(h.ext hx).frozen 1,(h.ext hx).frozen 2⟩
def Fr (b:Nat) (a:Option Addr):Prop:= ∀x,a=some x→b≤x.block
theorem Fr.none (b:Nat):Fr b Option.none:=fun _ h=>by cases h
theorem Fr.some {b b' o:Nat} {s} (h:b≤b'):Fr b (Option.some ⟨b',o,s⟩):=fun _ e=>by cases e;exact h
theorem Fr.mono {b b':Nat} {a:Option Addr} (h:Fr b a) (hb:b'≤b):Fr b' a:=fun x e=>Nat.le_trans hb (h x e)
theorem ep.ext {w w':World} {a:Option Addr} {c:Nat} {l:List Nat} (h:ep w a c l) (e:Ext w w'):ep w' a c l:=
 ⟨h.le,h.cap,h.short,h.GJ,h.small,fun i hi=>by
   obtain ⟨b,o,ha,hc⟩:=h.cell i hi;exact ⟨b,o,ha,by rw [e.cell (bm hc)];exact hc⟩⟩
theorem ep.below {w w':World} {B:Nat} {a:Option Addr} {c:Nat} {l:List Nat} (h:ep w a c l) (e:Below B w w') (hb: ∀x,a=some x→x.block<B):ep w' a c l:=
 ⟨h.le,h.cap,h.short,h.GJ,h.small,fun i hi=>by
   obtain ⟨b,o,ha,hc⟩:=h.cell i hi;exact ⟨b,o,ha,by rw [e.cell (p:=⟨b,o+i,none⟩) (show b<B from hb ⟨b,o,none⟩ ha)];exact hc⟩⟩
theorem ep.setCell {w:World} {a:Option Addr} {c:Nat} {l:List Nat} (h:ep w a c l) (p:Addr) (v:Value) (hp: ∀x,a=some x→x.block≠p.block):ep (w.setCell p v) a c l:=
 ⟨h.le,h.cap,h.short,h.GJ,h.small,fun i hi=>by
   obtain ⟨b,o,ha,hc⟩:=h.cell i hi;refine ⟨b,o,ha,?_⟩;rw [World.cell?_setCell_other _ _ _ _ (by intro e;exact hp _ ha (by rw [e]))];exact hc⟩
theorem ep.take {w:World} {a:Option Addr} {c:Nat} {l:List Nat} (h:ep w a c l) (k:Nat) (hk:k≤l.length):ep w a c (l.take k):=
 ⟨by rw [List.length_take];have:=h.le;omega,h.cap,by rw [List.length_take];have:=h.short;omega,h.GJ,h.small.take k,fun i hi=>by
   rw [List.length_take]at hi;obtain ⟨b,o,ha,hc⟩:=h.cell i (by omega);exact ⟨b,o,ha,by rw [qO (by omega)];exact hc⟩⟩
theorem ep.nil (w:World):ep w none 0 []:=⟨Nat.zero_le _,by omega,Nat.zero_le _,fun _=>rfl,Small.nil,fun _ h=>by cases h⟩
theorem ep.at {w:World} {a:Option Addr} {c:Nat} {l:List Nat} (h:ep w a c l) (h0:0<l.length): ∃b o,a=some ⟨b,o,none⟩:=by
 obtain ⟨b,o,ha,_⟩:=h.cell 0 h0;exact ⟨b,o,ha⟩
theorem ep.cellAt {w:World} {b o c:Nat} {l:List Nat} (h:ep w (some ⟨b,o,none⟩) c l) (i:Nat) (hi:i<l.length):w.cell? ⟨b,o+i,none⟩=some (.int .u32 (limb l i:Nat)):=by
 obtain ⟨b',o',e,hc⟩:=h.cell i hi;cases e;exact hc
theorem Raw.ext {w w':World} {a:Option Addr} {k c n:Nat} (h:Raw w a k c n) (e:Ext w w'):Raw w' a k c n:=by
 obtain ⟨l,h1,h2,h3⟩:=h;exact ⟨l,h1,h2,h3.ext e⟩
theorem Raw.setCell {w:World} {a:Option Addr} {k c n:Nat} (h:Raw w a k c n) (p:Addr) (v:Value) (hp: ∀x,a=some x→x.block≠p.block):Raw (w.setCell p v) a k c n:=by
 obtain ⟨l,h1,h2,h3⟩:=h;exact ⟨l,h1,h2,h3.setCell p v hp⟩
theorem Fr.ne {b b':Nat} {a:Option Addr} (h:Fr b a) (hb:b'<b): ∀x,a=Option.some x→x.block≠b':=fun x e=>by have:=h x e;omega
theorem Raw.nil (w:World):Raw w none 0 0 0:=⟨[],rfl,rfl,ep.nil _⟩
theorem Raw.cj {w:World} {a:Option Addr} {k c n:Nat} (h:Raw w a k c n):len n≤k:=by
 obtain ⟨l,h1,h2,h3⟩:=h;rw [←h1,←h2];exact oN h3.small
theorem Raw.le {w:World} {a:Option Addr} {k c n:Nat} (h:Raw w a k c n):k≤c∧k≤1099511627776∧c≤9223372036854775807:=by
 obtain ⟨l,h1,h2,h3⟩:=h;exact ⟨h1▸h3.le,h1▸h3.short,h3.cap⟩
theorem Raw.cut {w:World} {a:Option Addr} {k c n:Nat} (h:Raw w a k c n):Raw w a (len n) c n:=by
 obtain ⟨l,h1,h2,h3⟩:=h;have hl:=oN h3.small;rw [h2]at hl;exact ⟨l.take (len n),by rw [List.length_take];omega,by rw [ui h3.small hl (by rw [h2];exact Nat.le_refl _),h2],h3.take _ hl⟩
theorem oA (z:Value) (n:Nat):madeCells #[z] n=(List.replicate n z).toArray:=by
 unfold madeCells;apply Array.ext
 ·simp
 ·intro i h1 h2;simp [Nat.mod_one]
theorem dF {P:Program} (w:World) {ops:Array Oper} {rest:List Oper} {o:Oper} {a:Act} {Q:Exit→Act→World→Prop}
 (hg:o.guard=none) (l c:Operand) (t:TypeId) (hop:o.op=Op.makeSlice t l c)
 (e:TypeId) (z:Value) (bytes:Nat) (h1:P.underlying t=some (.slice e)) (h2:(P.info? e).map (fun i=>(i.zero,i.size,i.bytes))=some (some z,1,bytes)) (h3:z.cells= #[z])
 (L C:Int) (n:Nat) (hl:a.eval l= .int .i64 L) (hc:a.eval c= .int .i64 C) (hL:L=(n:Int)) (hC:C=(n:Int)) (b2:bytes*n≤281474976710656) (b3:n≤9223372036854775807)
 (hK: ∀w',Hid (aJ w' w.heap.size e (List.replicate n z))→Ext w w'→Hid (w'.heap.size=w.heap.size+1)→wpList P ops Q rest (a.put o.dst (.slice (some ⟨w.heap.size,0,none⟩) n n)) w'):
 wpList P ops Q (o::rest) a w:=by
 refine wpList_plain hg fun K hK'=> ?_;obtain ⟨i,h2,h4,h5,h6⟩:=info_parts h2;have hrun:=run_make (P:=P) w t e i z h1 h2 h4 .i64 .i64 n n (by omega) (Int.le_refl _) (by rw [h6,←Int.natCast_mul];omega) (by omega);subst hL;subst hC;unfold Oper.wp;simp only [Int.toNat_natCast,h5,Nat.mul_one,h3,oA]at hrun;simp [execOp,hop,hl,hc,hrun,Result.andThen];exact hK' _ _ (hK _ (aJ.alloc _ _ _) ((Ext.refl _).alloc _) (show _=_ by simp))
theorem Ext.setRow {a w:World} (h:Ext a w) {g:Nat} (hg:a.heap.size≤g) (cs:Array Value):Ext a (w.setRow g cs):=⟨below_setRow h.below hg cs,h.drawn⟩
def fN (l:List Nat):List Value:=l.map fun n=>Value.int .u32 (n:Nat)
theorem m8 (l:List Nat):(fN l).length=l.length:=by simp [fN]
theorem Ab (l:List Nat) (i x:Nat):(fN l).set i (.int .u32 (x:Nat))=fN (l.set i x):=by simp [fN,List.map_set]
theorem gb (n:Nat):List.replicate n (Value.int .u32 0)=fN (List.replicate n 0):=by simp [fN]
theorem m9 (l:List Nat) (i:Nat) (h:i<l.length):(fN l)[i]?=some (.int .u32 (limb l i:Nat)):=by simp [fN,limb,h]
theorem aJ.limbs {w:World} {b:Nat} {T:TypeId} {l:List Nat} (h:aJ w b T (fN l)) (hs:Small l) (hc:l.length≤1099511627776):ep w (some ⟨b,0,none⟩) l.length l:=
 ⟨Nat.le_refl _,by omega,hc,(fun e=>by cases e),hs,fun i hi=>⟨b,0,rfl,by rw [Nat.zero_add,h.cell,m9 _ _ hi]⟩⟩
theorem Qm (x y:Nat) (hx:x<4294967296) (hy:y<4294967296):bits BinOp.or IntKind.u64 (x:Int) ((y:Int)*4294967296)=((x+4294967296*y:Nat):Int):=by
 have e:((y:Int)*4294967296)=((y*4294967296:Nat):Int):=by omega
 rw [e,u64_or_nat _ _ (by omega) (by omega)];have:=Nat.shiftLeft_add_eq_or_of_lt (i:=32) (b:=x) (by omega) y;rw [Nat.shiftLeft_eq]at this;rw [Nat.or_comm,←this];congr 1;omega
theorem Qn (x y:Nat) (hx:x<4294967296) (hy:y<4294967296):bits BinOp.or IntKind.u64 ((x:Int)*4294967296) (y:Int)=((y+4294967296*x:Nat):Int):=by
 have e:((x:Int)*4294967296)=((x*4294967296:Nat):Int):=by omega
 rw [e,u64_or_nat _ _ (by omega) (by omega)];have:=Nat.shiftLeft_add_eq_or_of_lt (i:=32) (b:=y) (by omega) x;rw [Nat.shiftLeft_eq]at this;rw [←this];congr 1;omega
theorem or_zero (x:Nat) (hx:x<18446744073709551616):bits BinOp.or IntKind.u64 0 (x:Int)=(x:Int):=by
 have:=u64_or_nat 0 x (by omega) hx;simpa using this
theorem xk {a:Option Addr} {k k' c:Nat} (h:k=k'):Ending.returned (.slice a k c)= .returned (.slice a k' c):=by rw [h]
theorem cS {k:IntKind} {a b:Int} (h:a=b):Ending.returned (.int k a)= .returned (.int k b):=by rw [h]
def oO (n:Nat) (w:World) (e:Ending) (w':World):Prop:= ∃a c,e= .returned (.slice a (len n) c)∧Raw w' a (len n) c n∧Fr w.heap.size a∧Ext w w'
def kt (n m:Nat):Int:=if n<m then-1 else if n=m then 0 else 1
theorem uj (l:List Nat): ∀v∈fN l,v.oneCell'=true:=by
 intro v hv;simp only [fN,List.mem_map]at hv;obtain ⟨n,_,rfl⟩:=hv;rfl
theorem yv (l:List Nat) (j:Nat) (v:Value) (h:(fN l)[j]?=some v):j<l.length∧v= .int .u32 (limb l j:Nat):=by
 have hj:j<l.length:=by
  have:=(List.getElem?_eq_some_iff.1 h).1;rwa [m8]at this
 rw [m9 _ _ hj]at h;exact ⟨hj,by cases h;rfl⟩
theorem ep.src {w:World} {a:Option Addr} {c:Nat} {l:List Nat} (h:ep w a c l) (h0:0<l.length): ∃ad,a=some ad∧ ∀j v,(fN l)[j]?=some v→w.cell? (ad.add j)=some v:=by
 obtain ⟨b,o,ha⟩:=h.at h0;refine ⟨_,ha,fun j v hv=> ?_⟩;obtain ⟨hj,rfl⟩:=yv l j v hv;subst ha;have:=h.cellAt j hj;rw [show(Addr.add ⟨b,o,none⟩ j)=⟨b,o+j,none⟩from by unfold Addr.add;split<;>simp_all];exact this
structure Touch (lo hi:Nat) (w2 w3:World):Prop where
 os:w3.os=w2.os
 tape:w3.tape=w2.tape
 output:w3.output=w2.output
 drawn:w2.drawn≤w3.drawn
 size:w3.heap.size=w2.heap.size
 block: ∀k,k<lo∨hi≤k→w3.heap[k]?=w2.heap[k]?
theorem Touch.refl (lo hi:Nat) (w:World):Touch lo hi w w:=⟨rfl,rfl,rfl,Nat.le_refl _,rfl,fun _ _=>rfl⟩
theorem Touch.setCell {lo hi:Nat} {a w:World} (h:Touch lo hi a w) {p:Addr} (h1:lo≤p.block) (h2:p.block<hi) (v:Value):Touch lo hi a (w.setCell p v):=
 ⟨h.os,h.tape,h.output,h.drawn,by rw [←h.size];simp [World.setCell],fun k hk=>by rw [Below.heap_setCell _ _ _ _ (by omega)];exact h.block k hk⟩
theorem Touch.drew {lo hi:Nat} {a w:World} (h:Touch lo hi a w):Touch lo hi a w.drew:=⟨h.os,h.tape,h.output,Nat.le_succ_of_le h.drawn,h.size,h.block⟩
theorem Touch.drewN {lo hi:Nat} {a w:World} (h:Touch lo hi a w) (n:Nat):Touch lo hi a (w.drewN n):=⟨h.os,h.tape,h.output,Nat.le_trans h.drawn (Nat.le_add_right _ _),h.size,h.block⟩
theorem Ext.bF {w W w2 w3:World} (hW:Ext w W) (h:Ext W w2) (t:Touch w.heap.size W.heap.size w2 w3):Ext w w3:=by
 have h2:=hW.trans h;exact ⟨⟨t.os.trans h2.below.os,t.tape.trans h2.below.tape,t.output.trans h2.below.output,by rw [t.size];exact h2.below.size,fun k hk=>(t.block k (Or.inl hk)).trans (h2.below.block k hk)⟩,Nat.le_trans h2.drawn t.drawn⟩
theorem CC {lo hi:Nat} {w2 w3:World} (t:Touch lo hi w2 w3) {p:Addr} (hp:p.block<lo∨hi≤p.block):w3.cell? p=w2.cell? p:=by
 unfold World.cell?;rw [t.block _ hp]
theorem ep.bF {lo hi:Nat} {w2 w3:World} {a:Option Addr} {c:Nat} {l:List Nat} (h:ep w2 a c l) (t:Touch lo hi w2 w3) (ha: ∀x,a=some x→x.block<lo∨hi≤x.block):ep w3 a c l:=
 ⟨h.le,h.cap,h.short,h.GJ,h.small,fun i hi=>by
   obtain ⟨b,o,ha',hc⟩:=h.cell i hi;exact ⟨b,o,ha',by rw [CC t (p:=⟨b,o+i,none⟩) (ha ⟨b,o,none⟩ ha')];exact hc⟩⟩
theorem Raw.bF {lo hi:Nat} {w2 w3:World} {a:Option Addr} {k c n:Nat} (h:Raw w2 a k c n) (t:Touch lo hi w2 w3) (ha: ∀x,a=some x→x.block<lo∨hi≤x.block):Raw w3 a k c n:=by
 obtain ⟨l,h1,h2,h3⟩:=h;exact ⟨l,h1,h2,h3.bF t ha⟩
theorem Fr.o {lo hi:Nat} {a:Option Addr} (h:Fr hi a): ∀x,a=Option.some x→x.block<lo∨hi≤x.block:=fun x e=>Or.inr (h x e)
theorem Touch.one {lo hi b:Nat} (w:World) (h1:lo≤b) (h2:b<hi) (i:Nat) (v:Value):Touch lo hi w (w.setCell ⟨b,i,none⟩ v):=
 (Touch.refl _ _ _).setCell h1 h2 _
theorem Touch.two {lo hi b:Nat} (w:World) (h1:lo≤b) (h2:b<hi) (v0 v1:Value):Touch lo hi w ((w.setCell ⟨b,0,none⟩ v0).setCell ⟨b,1,none⟩ v1):=
 ((Touch.refl _ _ _).setCell h1 h2 _).setCell h1 h2 _
theorem Touch.three {lo hi b:Nat} (w:World) (h1:lo≤b) (h2:b<hi) (v0 v1 v2:Value):Touch lo hi w (((w.setCell ⟨b,0,none⟩ v0).setCell ⟨b,1,none⟩ v1).setCell ⟨b,2,none⟩ v2):=
 (((Touch.refl _ _ _).setCell h1 h2 _).setCell h1 h2 _).setCell h1 h2 _
theorem Touch.trans {lo hi:Nat} {a b c:World} (h:Touch lo hi a b) (k:Touch lo hi b c):Touch lo hi a c:=
 ⟨k.os.trans h.os,k.tape.trans h.tape,k.output.trans h.output,Nat.le_trans h.drawn k.drawn,k.size.trans h.size,fun i hi=>(k.block i hi).trans (h.block i hi)⟩
theorem aH (w:World) (T0:TypeId) (l0:List Value): ∃W:World,W=(w.alloc (.cells l0.toArray T0))∧Ext w W∧Hid (W.heap.size=w.heap.size+1)∧aJ W (w.heap.size) T0 l0:=by
 exact ⟨_,rfl,(Ext.refl _).alloc _,(show _=_ by simp),aJ.alloc _ _ _⟩
theorem fu (w:World) (T0:TypeId) (l0:List Value) (T1:TypeId) (l1:List Value): ∃W:World,W=((w.alloc (.cells l0.toArray T0)).alloc (.cells l1.toArray T1))∧Ext w W∧Hid (W.heap.size=w.heap.size+2)∧aJ W (w.heap.size) T0 l0∧aJ W (w.heap.size+1) T1 l1:=by
 obtain ⟨V,hV,x0,z0,a0⟩:=aH w T0 l0;refine ⟨_,rfl,?_⟩;rw [←hV];have z1:=z0.o;have b:=aJ.alloc V T1 l1;rw [z1]at b;exact ⟨x0.alloc _,(show _=_ by simp [z1]),a0.ext ((Ext.refl _).alloc _),b⟩
theorem eT (w:World) (T0:TypeId) (l0:List Value) (T1:TypeId) (l1:List Value) (T2:TypeId) (l2:List Value): ∃W:World,W=(((w.alloc (.cells l0.toArray T0)).alloc (.cells l1.toArray T1)).alloc (.cells l2.toArray T2))∧Ext w W∧Hid (W.heap.size=w.heap.size+3)∧aJ W (w.heap.size) T0 l0∧aJ W (w.heap.size+1) T1 l1∧aJ W (w.heap.size+2) T2 l2:=by
 obtain ⟨V,hV,x0,z0,a0,a1⟩:=fu w T0 l0 T1 l1;refine ⟨_,rfl,?_⟩;rw [←hV];have z1:=z0.o;have b:=aJ.alloc V T2 l2;rw [z1]at b;exact ⟨x0.alloc _,(show _=_ by simp [z1]),a0.ext ((Ext.refl _).alloc _),a1.ext ((Ext.refl _).alloc _),b⟩
theorem Nb (w:World) (T0:TypeId) (l0:List Value) (T1:TypeId) (l1:List Value) (T2:TypeId) (l2:List Value) (T3:TypeId) (l3:List Value): ∃W:World,W=((((w.alloc (.cells l0.toArray T0)).alloc (.cells l1.toArray T1)).alloc (.cells l2.toArray T2)).alloc (.cells l3.toArray T3))∧Ext w W∧Hid (W.heap.size=w.heap.size+4)∧aJ W (w.heap.size) T0 l0∧aJ W (w.heap.size+1) T1 l1∧aJ W (w.heap.size+2) T2 l2∧aJ W (w.heap.size+3) T3 l3:=by
 obtain ⟨V,hV,x0,z0,a0,a1,a2⟩:=eT w T0 l0 T1 l1 T2 l2;refine ⟨_,rfl,?_⟩;rw [←hV];have z1:=z0.o;have b:=aJ.alloc V T3 l3;rw [z1]at b;exact ⟨x0.alloc _,(show _=_ by simp [z1]),a0.ext ((Ext.refl _).alloc _),a1.ext ((Ext.refl _).alloc _),a2.ext ((Ext.refl _).alloc _),b⟩
def bA (s:Bool) (n:Nat):Int:=if s then-(n:Int)else n
theorem cd (s:Bool) (n:Nat):(bA s n).natAbs=n:=by unfold bA;cases s<;>simp
def bw (z:Int) (w:World) (e:Ending) (w':World):Prop:= ∃a c,e= .returned (.agg #[.bool (decide (z<0)),.slice a (len z.natAbs) c])∧Raw w' a (len z.natAbs) c z.natAbs∧Fr w.heap.size a∧Ext w w'
theorem bw.bF {z:Int} {w W w2 w3:World} {e:Ending} (h:bw z W e w2) (hW:Ext w W) (t:Touch w.heap.size W.heap.size w2 w3):bw z w e w3:=by
 obtain ⟨a,c,he,hr,hf,hx⟩:=h;exact ⟨a,c,he,hr.bF t hf.o,hf.mono hW.size,hW.bF hx t⟩
def bn (q:Rat) (w:World) (e:Ending) (w':World):Prop:= ∃a c a' c',e= .returned (.agg #[.bool (decide (q.num<0)),.slice a (len q.num.natAbs) c,.slice a' (len q.den) c'])∧
 Raw w' a (len q.num.natAbs) c q.num.natAbs∧Fr w.heap.size a∧Raw w' a' (len q.den) c' q.den∧Fr w.heap.size a'∧Ext w w'
theorem bn.bF {q:Rat} {w W w2 w3:World} {e:Ending} (h:bn q W e w2) (hW:Ext w W) (t:Touch w.heap.size W.heap.size w2 w3):bn q w e w3:=by
 obtain ⟨a,c,a',c',he,hr,hf,ku,hf',hx⟩:=h;exact ⟨a,c,a',c',he,hr.bF t hf.o,hf.mono hW.size,ku.bF t hf'.o,hf'.mono hW.size,hW.bF hx t⟩
theorem qP:len 1=1:=KB (by decide) (by decide)
theorem gA (x:Int) (y:Nat) (h:0<y):(mkRat x y).num.natAbs=x.natAbs/Nat.gcd y x.natAbs:=by
 rw [Rat.num_mkRat,if_neg (by omega),Int.natAbs_ediv_of_dvd (Int.ofNat_dvd_left.2 (Nat.gcd_dvd_right _ _)),Int.natAbs_natCast]
theorem lM (x:Int) (y:Nat) (h:0<y):(mkRat x y).den=y/Nat.gcd y x.natAbs:=by
 rw [Rat.den_mkRat,if_neg (by omega)]
theorem bn.base {q:Rat} {W w1 w2:World} {e:Ending} (h:bn q w1 e w2) (hx:Ext W w1):bn q W e w2:=by
 obtain ⟨a,c,a',c',he,hr,hf,ku,hf',jP⟩:=h;exact ⟨a,c,a',c',he,hr,hf.mono hx.size,ku,hf'.mono hx.size,hx.trans jP⟩
def oB (q:Rat):Nat:=max (len q.num.natAbs) (len q.den)
theorem lN (q:Rat):len q.num.natAbs≤oB q:=Nat.le_max_left _ _
theorem lO (q:Rat):len q.den≤oB q:=Nat.le_max_right _ _
theorem kV (x:Int) (y:Nat):oB (mkRat x y)≤max (max (len x.natAbs) (len y)) 1:=by
 unfold oB;by_cases h:0<y
 ·rw [gA _ _ h,lM _ _ h]
  have h1:=dJ (Nat.div_le_self x.natAbs (Nat.gcd y x.natAbs));have h2:=dJ (Nat.div_le_self y (Nat.gcd y x.natAbs));omega
 ·obtain rfl:y=0:=by omega
  rw [Rat.mkRat_zero];show max (len 0) (len 1)≤_;rw [uh,qP];omega
structure ct where
 s:Bool
 a:Option Addr
 k:Nat
 c:Nat
 b:Option Addr
 j:Nat
 d:Nat
def ct.cells (r:ct):List Value:= [.bool r.s,.slice r.a r.k r.c,.slice r.b r.j r.d]
def gW (w:World) (r:ct) (q:Rat) (L:Nat):Prop:= ∃n m,Raw w r.a r.k r.c n∧Raw w r.b r.j r.d m∧q=mkRat (bA r.s n) m∧len n≤L∧len m≤L
theorem gW.ext {w w':World} {r:ct} {q:Rat} {L:Nat} (h:gW w r q L) (e:Ext w w'):gW w' r q L:=by
 obtain ⟨n,m,h1,h2,h3⟩:=h;exact ⟨n,m,h1.ext e,h2.ext e,h3⟩
theorem gW.mono {w:World} {r:ct} {q:Rat} {L L':Nat} (h:gW w r q L) (hl:L≤L'):gW w r q L':=by
 obtain ⟨n,m,h1,h2,h3,h4,h5⟩:=h;exact ⟨n,m,h1,h2,h3,by omega,by omega⟩
theorem gW.oB {w:World} {r:ct} {q:Rat} {L:Nat} (h:gW w r q L):oB q≤max L 1:=by
 obtain ⟨n,m,h1,h2,rfl,h4,h5⟩:=h;have:=kV (bA r.s n) m;rw [cd]at this;omega
structure cT (w:World) (r:ct) (q:Rat) (B:Nat):Prop where
 s:r.s=decide (q.num<0)
 k:r.k=len q.num.natAbs
 j:r.j=len q.den
 num:Raw w r.a r.k r.c q.num.natAbs
 den:Raw w r.b r.j r.d q.den
 fa:Fr B r.a
 fb:Fr B r.b
theorem cT.ext {w w':World} {r:ct} {q:Rat} {B:Nat} (h:cT w r q B) (e:Ext w w'):cT w' r q B:=⟨h.s,h.k,h.j,h.num.ext e,h.den.ext e,h.fa,h.fb⟩
theorem cT.mono {w:World} {r:ct} {q:Rat} {B B':Nat} (h:cT w r q B) (e:B'≤B):cT w r q B':=⟨h.s,h.k,h.j,h.num,h.den,h.fa.mono e,h.fb.mono e⟩
theorem cT.setCell {w:World} {r:ct} {q:Rat} {B:Nat} (h:cT w r q B) (p:Addr) (v:Value) (hp:p.block<B):cT (w.setCell p v) r q B:=
 ⟨h.s,h.k,h.j,h.num.setCell _ _ (h.fa.ne hp),h.den.setCell _ _ (h.fb.ne hp),h.fa,h.fb⟩
structure og (w:World) (a:Option Addr) (c:Nat) (rs:List ct) (qs:List Rat) (L:Nat):Prop where
 len:qs.length=rs.length
 le:rs.length≤c
 cap:c≤9223372036854775807
 short:rs.length≤1099511627776
 cell: ∀i (h:i<rs.length),∃b o,a=some ⟨b,o,none⟩∧w.cell? ⟨b,o+i*3,none⟩=some (.bool rs[i].s)∧w.cell? ⟨b,o+i*3+1,none⟩=some (.slice rs[i].a rs[i].k rs[i].c)∧w.cell? ⟨b,o+i*3+2,none⟩=some (.slice rs[i].b rs[i].j rs[i].d)
 num: ∀i (h:i<rs.length),gW w rs[i] (qs[i]'(by omega)) L
theorem og.ext {w w':World} {a:Option Addr} {c:Nat} {rs:List ct} {qs:List Rat} {L:Nat} (h:og w a c rs qs L) (e:Ext w w'):og w' a c rs qs L:=
 ⟨h.len,h.le,h.cap,h.short,fun i hi=>by
   obtain ⟨b,o,ha,h0,h1,h2⟩:=h.cell i hi;exact ⟨b,o,ha,aj e h0,aj e h1,aj e h2⟩,fun i hi=>(h.num i hi).ext e⟩
theorem og.at {w:World} {a:Option Addr} {c:Nat} {rs:List ct} {qs:List Rat} {L:Nat} (h:og w a c rs qs L) (h0:0<rs.length): ∃b o,a=some ⟨b,o,none⟩:=by
 obtain ⟨b,o,ha,_⟩:=h.cell 0 h0;exact ⟨b,o,ha⟩
theorem Tryz.info_int:(Tryz.prog.info? 3).map (fun i=>(i.zero,i.size,i.bytes))=some (some (.int .i64 0),1,8):=by kernel_rfl
def lQ (l:List Int):List Value:=l.map (Value.int .i64)
theorem uk (l:List Int) (i:Nat) (h:i<l.length):(lQ l)[i]?=some (.int .i64 l[i]):=by simp [lQ,h]
section
variable{P:Program} (w:World)
theorem um (base:Nat) (t ty e:TypeId) (i:TypeInfo) (z:Value) (size bytes:Nat) (ht:P.underlying t=some (.slice e)) (hi:P.info? e=some i) (hz:i.zero=some z)
 (hsize:i.size=size) (hby:i.bytes=bytes) (hzs:z.cells.size=size) (hsz:0<size)
 (v:Value) (n:Nat) (xs:List Value) (hown:w.ownsRow base e size v n xs)
 (a:Addr) (m c:Nat) (news:List Value) (hl:news.length=m*size) (hnews: ∀j u,news[j]?=some u→w.cell? (a.add j)=some u) (h1: ∀u∈news,u.oneCell'=true)
 (h63:n+m≤maxLen) (hbytes:(n+m)*bytes≤140737488355328) (hbase:base≤w.heap.size):
 ∃v' w',(Builtin.append_ #[t,t] ty #[v,.slice (some a) m c]).run P w= .ok v' w'∧w'.ownsRow base e size v' (n+m) (xs++news)∧w.grownBy w' v.ownBlock∧w.drawn≤w'.drawn:=by
 obtain ⟨v',w',hr,h2,h3,_⟩:=run_append_own (P:=P) w base t ty e i z size bytes ht hi hz hsize hby hzs hsz v n xs hown a m c news hl hnews h1 h63 hbytes hbase;refine ⟨v',w',hr,h2,h3,?_⟩;subst hsize;subst hby;have Nc:n+m≤9223372036854775807:=by simp only [maxLen]at h63;omega
 rcases hown.2 with⟨rfl,rfl⟩|⟨g,cap,cur,rfl,hbg,hg,hnc,hcm,hcs,uo⟩
 ·have hx:xs= []:=List.eq_nil_of_length_eq_zero (by simpa using hown.1)
  subst hx;by_cases hm:m=0
  ·subst hm
   have hn:news= []:=List.eq_nil_of_length_eq_zero (by simpa using hl);subst hn
   have ku:(Builtin.append_ #[t,t] ty #[.slice none 0 0,.slice (some a) 0 c]).run P w= .ok (.slice none 0 0) w:=by
    simp [Builtin.append_,run_underlying ht,sizeOf,typeInfo,hi,Builtin.lenOf,Builtin.firstCells,loadCells,loadCellsFrom]
   rw [ku]at hr;cases hr;exact Nat.le_refl _
  ·have ku:=run_append_nil (P:=P) w t ty e i z ht hi hz a m c news hl hnews (by omega) (by omega) (by have hb:=hbytes;simp only [Nat.zero_add]at hb;omega)
   rw [ku]at hr;cases hr;exact Nat.le_succ _
 ·by_cases hroom:n+m≤cap
  ·have Nd:n*i.size+news.length≤cur.size:=by rw [hl,hcs,←Nat.add_mul];exact Nat.mul_le_mul_right _ hroom
   have ku:=run_append_room (P:=P) w t ty e i ht hi g n cap cur hg a m c news hl hnews h1 hroom Nd;rw [ku]at hr;cases hr;exact Nat.le_refl _
  ·have holds: ∀j u,xs[j]?=some u→w.cell? ((⟨g,0,none⟩:Addr).add j)=some u:=hown.cells (g:=g) rfl
   have ku:=run_append_grow (P:=P) w t ty e i z ht hi hz ⟨g,0,none⟩ n cap xs hown.1 holds a m c news hl hnews (by omega) (by omega) (growslice_fits (by omega) hbytes);rw [ku]at hr;cases hr;exact Nat.le_succ _
theorem iP {ops:Array Oper} {rest:List Oper} {o:Oper} {a:Act} {Q:Exit→Act→World→Prop} (hgd:o.guard=none) (s x:Operand) (t:TypeId)
 (ho:o.op= .call {callee:= .builtin .append,args:= #[s,x],argTypes:= #[t,t]})
 (base:Nat) (e:TypeId) (z:Value) (size bytes:Nat) (ht:P.underlying t=some (.slice e)) (jt:(P.info? e).map (fun i=>(i.zero,i.size,i.bytes))=some (some z,size,bytes)) (hzs:z.cells.size=size) (hsz:0<size)
 (v:Value) (n:Nat) (xs:List Value) (hs:a.eval s=v) (hown:w.ownsRow base e size v n xs)
 (xa:Option Addr) (m c:Nat) (news:List Value) (hx:a.eval x= .slice xa m c) (hl:news.length=m*size) (hnews:0<m→ ∃ad,xa=some ad∧ ∀j u,news[j]?=some u→w.cell? (ad.add j)=some u) (h1: ∀u∈news,u.oneCell'=true)
 (hnil:xa=none→m=0∧c=0)
 (h63:n+m≤1200000000000) (hbytes:bytes≤100) (hbase:base≤w.heap.size)
 (h: ∀v' w',Hid (w'.ownsRow base e size v' (n+m) (xs++news))→Hid (∀a0,Ext a0 w→a0.heap.size≤base→Ext a0 w')→Hid (∀k,k<w.heap.size→some k≠v.ownBlock→w'.heap[k]?=w.heap[k]?)→Hid (w.heap.size≤w'.heap.size)→wpList P ops Q rest (a.put o.dst v') w'):wpList P ops Q (o::rest) a w:=by
 obtain ⟨i,hi,hz,hsize,hby⟩:=info_parts jt;have hlt:=hown.lt;have hb:(n+m)*bytes≤140737488355328:=Nat.le_trans (Nat.mul_le_mul h63 hbytes) (by decide);have td:n+m≤maxLen:=by unfold maxLen;omega
 cases xa with
 |none=>
  obtain ⟨rfl,rfl⟩:=hnil rfl;have hn:news= []:=List.eq_nil_of_length_eq_zero (by simpa using hl);subst hn;refine wpList_append_own_none hgd s x t ho base e i size ht hi v n xs hs hown hx ?_;exact h v w (ae (by simpa using hown)) (fun _ h _=>h) (fun _ _ _=>rfl) (Nat.le_refl _)
 |some ad=>
  have lR: ∀j u,news[j]?=some u→w.cell? (ad.add j)=some u:=by
   intro j u hu;by_cases hm:0<m
   ·obtain ⟨Vs,e',hh⟩:=hnews hm;cases e';exact hh j u hu
   ·have:news= []:=List.eq_nil_of_length_eq_zero (by rw [hl];have:m=0:=by omega
                                                     simp [this])
    rw [this]at hu;simp at hu
  refine wpList_plain hgd fun K hK=> ?_;obtain ⟨v',w',hr,h2,h3,h4⟩:=um (P:=P) w base t o.type e i z size bytes ht hi hz hsize hby hzs hsz v n xs hown ad m c news hl lR h1 td hb hbase;unfold Oper.wp execOp;simp only [ho,resolve,invoke,builtin,Sem.run_bind,Sem.run_pure,Result.andThen_ok,List.map_toArray,List.map_cons,List.map_nil,hs,hx,hr];refine hK _ _ (h v' w' h2 (fun a0 ha hb0=>⟨ha.below.trans ⟨h3.os,h3.tape,h3.output,h3.size,fun k hk=>h3.block k (by have:=ha.size;omega) (fun e'=>by have:=hlt k e'.symm;omega)⟩,Nat.le_trans ha.drawn h4⟩) h3.block h3.size)
end
theorem wk {w:World} {base:Nat} {e:TypeId} {v:Value} {n:Nat} {l:List Nat} (h:w.ownsRow base e 1 v n (fN l)) (hs:Small l) (hc:l.length≤1099511627776):
 ∃a c,v= .slice a n c∧l.length=n∧ep w a c l∧Fr base a:=by
 obtain ⟨h1,h2⟩:=h;rw [m8,Nat.mul_one]at h1;rcases h2 with⟨rfl,rfl⟩|⟨g,cap,cur,rfl,hb,hg,hn,dy,hcs,uo⟩
 ·have:l= []:=List.eq_nil_of_length_eq_zero h1
  subst this;exact ⟨none,0,rfl,rfl,ep.nil _,Fr.none _⟩
 ·refine ⟨some ⟨g,0,none⟩,cap,rfl,h1,⟨by omega,by unfold maxLen at dy;omega,hc,(fun e=>by cases e),hs,fun i hi=>⟨g,0,rfl,?_⟩⟩,Fr.some hb⟩
  rw [Nat.zero_add]
  have:cur.toList[i]?=some (.int .u32 (limb l i:Nat)):=by
   have h3:(cur.toList.take (n*1))[i]?=(fN l)[i]?:=by rw [uo]
   rw [m9 _ _ hi,List.getElem?_take,if_pos (by omega)]at h3;exact h3
  simp only [World.cell?,hg];simpa using this
theorem kK (w:World) (base:Nat) (e:TypeId) (g:Nat) (hb:base≤g) (hg:aJ w g e []):w.ownsRow base e 1 (.slice (some ⟨g,0,none⟩) 0 0) 0 []:=
 ⟨rfl,.inr ⟨g,0,#[],rfl,hb,hg,Nat.le_refl _,Nat.zero_le _,rfl,rfl⟩⟩
theorem bw.base {z:Int} {W w1 w2:World} {e:Ending} (h:bw z w1 e w2) (hx:Ext W w1):bw z W e w2:=by
 obtain ⟨a,c,he,hr,hf,jP⟩:=h;exact ⟨a,c,he,hr,hf.mono hx.size,hx.trans jP⟩
def dY (s:Bool) (n m:Nat) (w:World) (e:Ending) (w':World):Prop:= ∃a c a' c',e= .returned (.agg #[.bool s,.slice a (len n) c,.slice a' (len m) c'])∧Raw w' a (len n) c n∧Fr w.heap.size a∧Raw w' a' (len m) c' m∧Fr w.heap.size a'∧Ext w w'
def gh (s:Bool) (n:Nat) (w:World) (e:Ending) (w':World):Prop:= ∃a c,e= .returned (.agg #[.bool s,.slice a (len n) c])∧Raw w' a (len n) c n∧Fr w.heap.size a∧Ext w w'
theorem bw.intOf {z:Int} {w w':World} {e:Ending} (h:bw z w e w'):gh (decide (z<0)) z.natAbs w e w':=h
theorem dY.base {s:Bool} {n m:Nat} {W w1 w2:World} {e:Ending} (h:dY s n m w1 e w2) (hx:Ext W w1):dY s n m W e w2:=by
 obtain ⟨a,c,a',c',he,hr,hf,ku,hf',jP⟩:=h;exact ⟨a,c,a',c',he,hr,hf.mono hx.size,ku,hf'.mono hx.size,hx.trans jP⟩
def KC (s:Bool) (n m:Nat) (w:World) (e:Ending) (w':World):Prop:= ∃a c a' c',e= .returned (.tuple #[.agg #[.bool s,.slice a (len n) c,.slice a' (len m) c'],.bool true])∧Raw w' a (len n) c n∧Fr w.heap.size a∧Raw w' a' (len m) c' m∧Fr w.heap.size a'∧Ext w w'
theorem dY.ok {s:Bool} {n m:Nat} {w w':World} {a a':Option Addr} {c c':Nat} (h:dY s n m w (.returned (.agg #[.bool s,.slice a (len n) c,.slice a' (len m) c'])) w'):KC s n m w (.returned (.tuple #[.agg #[.bool s,.slice a (len n) c,.slice a' (len m) c'],.bool true])) w':=by
 obtain ⟨a1,c1,a2,c2,he,hr,hf,ku,hf',hx⟩:=h;cases he
 exact ⟨_,_,_,_,rfl,hr,hf,ku,hf',hx⟩
theorem dY.bF {s:Bool} {n m:Nat} {w W w2 w3:World} {e:Ending} (h:dY s n m W e w2) (hW:Ext w W) (t:Touch w.heap.size W.heap.size w2 w3):dY s n m w e w3:=by
 obtain ⟨a,c,a',c',he,hr,hf,ku,hf',hx⟩:=h;exact ⟨a,c,a',c',he,hr.bF t hf.o,hf.mono hW.size,ku.bF t hf'.o,hf'.mono hW.size,hW.bF hx t⟩
theorem gh.bF {s:Bool} {n:Nat} {w W w2 w3:World} {e:Ending} (h:gh s n W e w2) (hW:Ext w W) (t:Touch w.heap.size W.heap.size w2 w3):gh s n w e w3:=by
 obtain ⟨a,c,he,hr,hf,hx⟩:=h;exact ⟨a,c,he,hr.bF t hf.o,hf.mono hW.size,hW.bF hx t⟩
theorem gh.base {s:Bool} {n:Nat} {W w1 w2:World} {e:Ending} (h:gh s n w1 e w2) (hx:Ext W w1):gh s n W e w2:=by
 obtain ⟨a,c,he,hr,hf,jP⟩:=h;exact ⟨a,c,he,hr,hf.mono hx.size,hx.trans jP⟩
def CD (v n:Int):Int:=(v % 18446744073709551616) % n
theorem uq (w:World) (v n:Int) (_hv1: -9223372036854775808≤v) (_hv2:v<9223372036854775808) (hn:0<n) (CE:n<1000000):
 Calls prog 18 #[.int .i64 v,.int .i64 n] w fun e w'=>e= .returned (.int .i64 (CD v n))∧w=w':=by
 go_enter func18,ntmps18
 go_wp2_with fail
 go_ret;refine ⟨cS ?_,rfl⟩
 have hw:IntKind.u64.wrap v=v % 18446744073709551616:=by
  simp [IntKind.wrap,IntKind.signed,IntKind.bits]
 have h0:0≤v % 18446744073709551616:=Int.emod_nonneg _ (by omega);rw [hw,Int.tmod_eq_emod_of_nonneg h0];have a:=Int.emod_nonneg (v % 18446744073709551616) (show n≠0 by omega);have b:=Int.emod_lt_of_pos (v % 18446744073709551616) hn;unfold CD;generalize v % 18446744073709551616 % n=z at*;unfold wrap64;omega
def qQ (w:World) (a:Option Addr) (l:List Int):Prop:= ∃b o,a=some ⟨b,o,none⟩∧ ∀i (hi:i<l.length),w.cell? ⟨b,o+i,none⟩=some (.int .i64 l[i])
theorem qQ.ext {w w':World} {a:Option Addr} {l:List Int} (h:qQ w a l) (hX:Ext w w'):qQ w' a l:=by
 obtain ⟨b,o,rfl,hc⟩:=h;exact ⟨b,o,rfl,fun i hi=>(hX.cell (bm (hc i hi))).trans (hc i hi)⟩
section
variable{P:Program} (w:World)
theorem gX (base:Nat) (t ty e:TypeId) (i:TypeInfo) (z:Value) (size bytes:Nat) (ht:P.underlying t=some (.slice e)) (hi:P.info? e=some i) (hz:i.zero=some z)
 (hsize:i.size=size) (hby:i.bytes=bytes) (hzs:z.cells.size=size) (hsz:0<size)
 (v:Value) (n:Nat) (xs:List Value) (hown:w.ownsRow base e size v n xs)
 (a:Addr) (m c:Nat) (news:List Value) (hl:news.length=m*size) (hnews: ∀j u,news[j]?=some u→w.cell? (a.add j)=some u) (h1: ∀u∈news,u.oneCell'=true)
 (h63:n+m≤maxLen) (hbytes:(n+m)*bytes≤140737488355328) (hbase:base≤w.heap.size):
 ∃v' w',(Builtin.append_ #[t,t] ty #[v,.slice (some a) m c]).run P w= .ok v' w'∧w'.ownsRow base e size v' (n+m) (xs++news)∧w.grownBy w' v.ownBlock∧w.drawn≤w'.drawn∧(v'.ownBlock=v.ownBlock∨ ∃g,v'.ownBlock=some g∧w.heap.size≤g):=by
 obtain ⟨v',w',hr,h2,h3,_⟩:=run_append_own (P:=P) w base t ty e i z size bytes ht hi hz hsize hby hzs hsz v n xs hown a m c news hl hnews h1 h63 hbytes hbase;refine ⟨v',w',hr,h2,h3,?_⟩;subst hsize;subst hby;have Nc:n+m≤9223372036854775807:=by simp only [maxLen]at h63;omega
 rcases hown.2 with⟨rfl,rfl⟩|⟨g,cap,cur,rfl,hbg,hg,hnc,hcm,hcs,uo⟩
 ·have hx:xs= []:=List.eq_nil_of_length_eq_zero (by simpa using hown.1)
  subst hx;by_cases hm:m=0
  ·subst hm
   have hn:news= []:=List.eq_nil_of_length_eq_zero (by simpa using hl);subst hn
   have ku:(Builtin.append_ #[t,t] ty #[.slice none 0 0,.slice (some a) 0 c]).run P w= .ok (.slice none 0 0) w:=by
    simp [Builtin.append_,run_underlying ht,sizeOf,typeInfo,hi,Builtin.lenOf,Builtin.firstCells,loadCells,loadCellsFrom]
   rw [ku]at hr;cases hr;exact ⟨Nat.le_refl _,.inl rfl⟩
  ·have ku:=run_append_nil (P:=P) w t ty e i z ht hi hz a m c news hl hnews (by omega) (by omega) (by have hb:=hbytes;simp only [Nat.zero_add]at hb;omega)
   rw [ku]at hr;cases hr;exact ⟨Nat.le_succ _,.inr ⟨_,rfl,Nat.le_refl _⟩⟩
 ·by_cases hroom:n+m≤cap
  ·have Nd:n*i.size+news.length≤cur.size:=by rw [hl,hcs,←Nat.add_mul];exact Nat.mul_le_mul_right _ hroom
   have ku:=run_append_room (P:=P) w t ty e i ht hi g n cap cur hg a m c news hl hnews h1 hroom Nd;rw [ku]at hr;cases hr;exact ⟨Nat.le_refl _,.inl rfl⟩
  ·have holds: ∀j u,xs[j]?=some u→w.cell? ((⟨g,0,none⟩:Addr).add j)=some u:=hown.cells (g:=g) rfl
   have ku:=run_append_grow (P:=P) w t ty e i z ht hi hz ⟨g,0,none⟩ n cap xs hown.1 holds a m c news hl hnews (by omega) (by omega) (growslice_fits (by omega) hbytes);rw [ku]at hr;cases hr;exact ⟨Nat.le_succ _,.inr ⟨_,rfl,Nat.le_refl _⟩⟩
theorem aW {ops:Array Oper} {rest:List Oper} {o:Oper} {a:Act} {Q:Exit→Act→World→Prop} (hgd:o.guard=none) (s x:Operand) (t:TypeId)
 (ho:o.op= .call {callee:= .builtin .append,args:= #[s,x],argTypes:= #[t,t]})
 (base:Nat) (e:TypeId) (z:Value) (size bytes:Nat) (ht:P.underlying t=some (.slice e)) (jt:(P.info? e).map (fun i=>(i.zero,i.size,i.bytes))=some (some z,size,bytes)) (hzs:z.cells.size=size) (hsz:0<size)
 (v:Value) (n:Nat) (xs:List Value) (hs:a.eval s=v) (hown:w.ownsRow base e size v n xs)
 (xa:Option Addr) (m c:Nat) (news:List Value) (hx:a.eval x= .slice xa m c) (hl:news.length=m*size) (hnews:0<m→ ∃ad,xa=some ad∧ ∀j u,news[j]?=some u→w.cell? (ad.add j)=some u) (h1: ∀u∈news,u.oneCell'=true)
 (hnil:xa=none→m=0∧c=0)
 (h63:n+m≤1200000000000) (hbytes:bytes≤100) (hbase:base≤w.heap.size)
 (h: ∀v' w',Hid (w'.ownsRow base e size v' (n+m) (xs++news))→Hid (∀a0,Ext a0 w→a0.heap.size≤base→Ext a0 w')→Hid (∀k,k<w.heap.size→some k≠v.ownBlock→w'.heap[k]?=w.heap[k]?)→Hid (w.heap.size≤w'.heap.size)→Hid (v'.ownBlock=v.ownBlock∨ ∃g,v'.ownBlock=some g∧w.heap.size≤g)→wpList P ops Q rest (a.put o.dst v') w'):wpList P ops Q (o::rest) a w:=by
 obtain ⟨i,hi,hz,hsize,hby⟩:=info_parts jt;have hlt:=hown.lt;have hb:(n+m)*bytes≤140737488355328:=Nat.le_trans (Nat.mul_le_mul h63 hbytes) (by decide);have td:n+m≤maxLen:=by unfold maxLen;omega
 cases xa with
 |none=>
  obtain ⟨rfl,rfl⟩:=hnil rfl;have hn:news= []:=List.eq_nil_of_length_eq_zero (by simpa using hl);subst hn;refine wpList_append_own_none hgd s x t ho base e i size ht hi v n xs hs hown hx ?_;exact h v w (ae (by simpa using hown)) (fun _ h _=>h) (fun _ _ _=>rfl) (Nat.le_refl _) (.inl rfl)
 |some ad=>
  have lR: ∀j u,news[j]?=some u→w.cell? (ad.add j)=some u:=by
   intro j u hu;by_cases hm:0<m
   ·obtain ⟨Vs,e',hh⟩:=hnews hm;cases e';exact hh j u hu
   ·have:news= []:=List.eq_nil_of_length_eq_zero (by rw [hl];have:m=0:=by omega
                                                     simp [this])
    rw [this]at hu;simp at hu
  refine wpList_plain hgd fun K hK=> ?_;obtain ⟨v',w',hr,h2,h3,h4,h5⟩:=gX (P:=P) w base t o.type e i z size bytes ht hi hz hsize hby hzs hsz v n xs hown ad m c news hl lR h1 td hb hbase;unfold Oper.wp execOp;simp only [ho,resolve,invoke,builtin,Sem.run_bind,Sem.run_pure,Result.andThen_ok,List.map_toArray,List.map_cons,List.map_nil,hs,hx,hr];refine hK _ _ (h v' w' h2 (fun a0 ha hb0=>⟨ha.below.trans ⟨h3.os,h3.tape,h3.output,h3.size,fun k hk=>h3.block k (by have:=ha.size;omega) (fun e'=>by have:=hlt k e'.symm;omega)⟩,Nat.le_trans ha.drawn h4⟩) h3.block h3.size h5)
end
structure aD (w:World) (a:Option Addr) (c:Nat) (xs:List Int):Prop where
 le:xs.length≤c
 cap:c≤9223372036854775807
 cell: ∀i (h:i<xs.length),∃b o,a=some ⟨b,o,none⟩∧w.cell? ⟨b,o+i,none⟩=some (.int .i64 xs[i])
 Nf: ∀i (h:i<xs.length),-9223372036854775808≤xs[i]∧xs[i]<9223372036854775808
theorem aD.ext {w w':World} {a:Option Addr} {c:Nat} {xs:List Int} (h:aD w a c xs) (e:Ext w w'):aD w' a c xs:=
 ⟨h.le,h.cap,fun i hi=>by obtain ⟨b,o,ha,hc⟩:=h.cell i hi;exact ⟨b,o,ha,aj e hc⟩,h.Nf⟩
theorem ur (v n:Int) (hn:0<n):0≤CD v n∧CD v n<n:=
 ⟨Int.emod_nonneg _ (by omega),Int.emod_lt_of_pos _ hn⟩
theorem bq {w w':World} {base:Nat} {e:TypeId} {s:Nat} {v:Value} {n:Nat} {xs:List Value} (h:w.ownsRow base e s v n xs) (hX:Ext w w'):w'.ownsRow base e s v n xs:=by
 obtain ⟨h1,h2⟩:=h;refine ⟨h1,?_⟩;rcases h2 with h2|⟨g,cap,cur,hv,hb,hg,hr⟩
 ·exact .inl h2
 ·refine .inr ⟨g,cap,cur,hv,hb,?_,hr⟩
  rw [hX.below.block g (Array.getElem?_eq_some_iff.1 hg).1];exact hg
theorem Raw.lt {w:World} {a:Option Addr} {k c n:Nat} (h:Raw w a k c n) (hk:0<k): ∀x,a=some x→x.block<w.heap.size:=by
 intro x hx;obtain ⟨l,e1,e2,e3⟩:=h;obtain ⟨b',o,ha,hc⟩:=e3.cell 0 (by omega);have:=bm hc;rw [hx]at ha;cases ha
 exact this
theorem aD.at {w:World} {a:Option Addr} {c:Nat} {xs:List Int} (h:aD w a c xs) (h0:0<xs.length): ∃b o,a=some ⟨b,o,none⟩:=by
 obtain ⟨b,o,ha,_⟩:=h.cell 0 h0;exact ⟨b,o,ha⟩
theorem cu (w:World) (T:TypeId) (vs:List Value): ∀j u,vs[j]?=some u→(w.alloc (.cells vs.toArray T)).cell? (Addr.add ⟨w.heap.size,0,none⟩ j)=some u:=by
 intro j u hu;rw [show(Addr.add ⟨w.heap.size,0,none⟩ j)=⟨w.heap.size,0+j,none⟩from by unfold Addr.add;split<;>simp_all,Nat.zero_add,(aJ.alloc w T vs).cell];exact hu
def j3 (rs:List ct) (L:Nat):Prop:= ∀k (hk:k<rs.length),rs[k].k≤L∧rs[k].j≤L
theorem j3.nil (L:Nat):j3 [] L:=fun _ hk=>absurd hk (Nat.not_lt_zero _)
theorem cT.short {w:World} {r:ct} {q:Rat} {B L:Nat} (h:cT w r q B) (hl:oB q≤L):r.k≤L∧r.j≤L:=by
 have h1:=lN q;have h2:=lO q;rw [h.k,h.j];omega
open Go
section
variable{P:Program} {ops:Array Oper} {Q:Exit→Act→World→Prop} {md:Region.Mode} {S:World→Prop} {Z:Nat→Bool}
def iQ (P:Program) (md:Region.Mode) (ops:Array Oper) (Q:Exit→Act→World→Prop) (S:World→Prop) (Z:Nat→Bool):Nat→Array Bool→Act→World→Prop
 |0,ls,a,w=>Region.ready md ops ls= []∧Q .normal a w
 |n+1,ls,a,w=>(Region.ready md ops ls= []→Q .normal a w)∧
  ∀i∈Region.ready md ops ls,wpOp P ops Q i (fun a' w'=>(Z i=false→S w')∧iQ P md ops Q S Z n (ls.setIfInBounds i true) a' w') a w
theorem uu: ∀(n:Nat) (ls:Array Bool) (a:Act) (w:World),iQ P md ops Q S Z n ls a w→wpAny P md ops Q n ls a w
 |0,_,_,_,h=>h
 |n+1,_,_,_,h=>⟨h.1,fun i hi=>wpOp_mono (fun a' w' h'=>uu n _ a' w' h'.2) (h.2 i hi)⟩
def uw (md:Region.Mode) (ops:Array Oper) (Z:Nat→Bool) (i:Nat):Bool:=
 (List.range ops.size).all fun j=> !Z j||(match ops[j]? with|some o=>o.after.toList.any (fun e=>Region.binds md e&&e.on==i)|none=>true)
theorem r_ {i:Nat} (h:uw md ops Z i=true): ∀j oj,ops[j]?=some oj→Z j=true→ ∃e∈oj.after,Region.binds md e=true∧e.on=i:=by
 intro j oj hj hz;have hl:j<ops.size:=(Array.getElem?_eq_some_iff.1 hj).1;have h1:=List.all_eq_true.1 h j (List.mem_range.2 hl);rw [hz,hj]at h1;simp only [Bool.not_true,Bool.false_or]at h1;obtain ⟨e,he,h2⟩:=List.any_eq_true.1 h1;simp only [Bool.and_eq_true,beq_iff_eq]at h2;exact ⟨e,Array.mem_toList_iff.1 he,h2.1,h2.2⟩
theorem yw {i:Nat} {oi:Oper} {v:Value} (hi:ops[i]?=some oi) (G8: ∀(j:Nat) (o:Oper) cs b,ops[j]?=some o→o.op≠ .select cs b)
 (hQ: ∀c a w,Q (.panic c) (a.put oi.dst v) w→Q (.panic c) a w) (hZ: ∀j oj,ops[j]?=some oj→Z j=true→ ∃e∈oj.after,Region.binds md e=true∧e.on=i):
 ∀(n:Nat) (ls:Array Bool) (a:Act) (w:World),
  (∀j oj,ops[j]?=some oj→j≠i→ls.getD j true=false→(∀e∈oj.after,Region.binds md e=true→e.on≠i)→oi.apart ops oj=true)→
  i∈Region.ready md ops ls→YieldsIf P ops S oi v a→S w→
  iQ P md ops Q S Z n (ls.setIfInBounds i true) (a.put oi.dst v) w→iQ P md ops Q S Z (n+1) ls a w:=by
 intro n;induction n with
 |zero=>
  intro ls a w _ hr hy hS H;refine ⟨fun h=>(by rw [h]at hr;cases hr),fun j hj=> ?_⟩;by_cases oP:j=i
  ·subst oP;exact hy.wpOp hi hS ⟨fun _=>hS,H⟩
  ·have:=ready_mono hj oP
   rw [H.1]at this;cases this
 |succ n ih=>
  intro ls a w Ac hr hy hS H;refine ⟨fun h=>(by rw [h]at hr;cases hr),fun j hj=> ?_⟩;by_cases oP:j=i
  ·subst oP;exact hy.wpOp hi hS ⟨fun _=>hS,H⟩
  ·have h1:=H.2 j (ready_mono hj oP)
   obtain ⟨G9,oj,KE,hall⟩:=mem_ready.1 hj
   have G_: ∀e∈oj.after,Region.binds md e=true→e.on≠i:=fun e he hb heq=>by
    have h1:=hall e he hb;have h0:=(mem_ready.1 hr).1;rw [heq]at h1;rcases Nat.lt_or_ge i ls.size with h'|h'
    ·simp [h']at h0 h1;rw [h0]at h1;cases h1
    ·simp [Array.getElem?_eq_none h']at h1
   have hzj:Z j=false:=by
    cases hz:Z j with
    |false=>rfl
    |true=>
     obtain ⟨e,he,hb,heq⟩:=hZ j oj KE hz;exact absurd heq (G_ e he hb)
   have h2:=wpOp_putIf KE (Ac j oj KE oP G9 G_) (fun cs b=>G8 i oi cs b hi) (fun cs b=>G8 j oj cs b KE) hQ hy h1
   have CF: ∀k ok,ops[k]?=some ok→k≠i→(ls.setIfInBounds j true).getD k true=false→
    (∀e∈ok.after,Region.binds md e=true→e.on≠i)→oi.apart ops ok=true:=fun k ok hk Vt Qo hno=>by
    refine Ac k ok hk Vt ?_ hno;by_cases hjk:j=k
    ·subst hjk;exact G9
    ·rw [getD_set_ne true hjk]at Qo;exact Qo
   refine wpOp_mono (fun a' w' h3=>⟨h3.2.1,ih (ls.setIfInBounds j true) a' w' CF (ready_mono hr (Ne.symm oP)) h3.1 (h3.2.1 hzj) ?_⟩) h2;rw [Array.setIfInBounds_comm _ _ oP];exact h3.2.2
theorem Ad {i:Nat} {oi:Oper} {v:Value} {n:Nat} {ls:Array Bool} {a:Act} {w:World} (hi:ops[i]?=some oi)
 (hs:Region.noSelect ops=true) (hf:Region.free md ops ls i=true) (hr:(Region.ready md ops ls).contains i=true) (hz:uw md ops Z i=true)
 (hQ: ∀c a w,Q (.panic c) (a.put oi.dst v) w→Q (.panic c) a w) (hy:YieldsIf P ops S oi v a) (hS:S w)
 (h:iQ P md ops Q S Z n (ls.setIfInBounds i true) (a.put oi.dst v) w):iQ P md ops Q S Z (n+1) ls a w:=
 yw hi (Region.noSelect_spec hs) hQ (r_ hz) n ls a w (Region.free_spec hi hf) (by simpa using hr) hy hS h
def aU (P:Program) (md:Region.Mode) (ops:Array Oper) (Q:Exit→Act→World→Prop) (S:World→Prop) (Z:Nat→Bool) (n:Nat) (ls:Array Bool) (a:Act) (w:World) (rs:List Nat):Prop:=
 ∀i∈rs,wpOp P ops Q i (fun a' w'=>(Z i=false→S w')∧iQ P md ops Q S Z n (ls.setIfInBounds i true) a' w') a w
theorem aU.nil {n:Nat} {ls:Array Bool} {a:Act} {w:World}:aU P md ops Q S Z n ls a w []:=fun _ h=>by cases h
theorem _root_.Go.Shut.o {p:Prop} (h:Go.Shut p):p:=h
theorem aU.cons {n:Nat} {ls:Array Bool} {a:Act} {w:World} {i:Nat} {o:Oper} {rs:List Nat} (ho:ops[i]?=some o)
 (h: ∀K':Act→World→Prop,Shut (∀a w,S w→(S w→iQ P md ops Q S Z n (ls.setIfInBounds i true) a w)→K' a w)→if Region.wanted o (yielded ops a.tmps)=true then Oper.wp P o a w K' Q else K' (a.put o.dst undef) w)
 (hs:aU P md ops Q S Z n ls a w rs):aU P md ops Q S Z n ls a w (i::rs):=fun j hj=>by
 rcases List.mem_cons.1 hj with rfl|hj
 ·exact wpOp_step ho (fun K' hK=>h K' (fun a w hS hW=>hK a w ⟨fun _=>hS,hW hS⟩))
 ·exact hs j hj
theorem aU.last {n:Nat} {ls:Array Bool} {a:Act} {w:World} {i:Nat} {o:Oper} {rs:List Nat} (ho:ops[i]?=some o) (hz:Z i=true)
 (h: ∀K':Act→World→Prop,Shut (∀a w,iQ P md ops Q S Z n (ls.setIfInBounds i true) a w→K' a w)→if Region.wanted o (yielded ops a.tmps)=true then Oper.wp P o a w K' Q else K' (a.put o.dst undef) w)
 (hs:aU P md ops Q S Z n ls a w rs):aU P md ops Q S Z n ls a w (i::rs):=fun j hj=>by
 rcases List.mem_cons.1 hj with rfl|hj
 ·exact wpOp_step ho (fun K' hK=>h K' (fun a w hW=>hK a w ⟨fun e=>absurd (hz.symm.trans e) (by decide),hW⟩))
 ·exact hs j hj
theorem bZ {rs:List Nat} {n:Nat} {ls:Array Bool} {a:Act} {w:World} (hr:Region.ready md ops ls=rs) (hne:rs≠ [])
 (h:aU P md ops Q S Z n ls a w rs):iQ P md ops Q S Z (n+1) ls a w:=⟨fun h0=>absurd (hr▸h0) hne,hr▸h⟩
theorem dV {ls:Array Bool} {a:Act} {w:World} (hr:Region.ready md ops ls= []) (h:Q .normal a w): ∀n,iQ P md ops Q S Z n ls a w
 |0=>⟨hr,h⟩
 |_+1=>⟨fun _=>h,by rw [hr];simp⟩
theorem dW {id:Nat} {a:Act} {w:World} (Z:Nat→Bool) (hm:P.follows .mixedOrders=true) (hS:S w.drew)
 (h:S w.drew→iQ P .any ops Q S Z ops.size (Array.replicate ops.size false) a w.drew):(Code.region id ops true).wp P Q a w:=
 wp_region_any hm (uu _ _ _ _ (h hS))
end
def upd (m:Int→Int) (k v:Int):Int→Int:=fun x=>if x=k then v else m x
theorem Ae (m:Int→Int) (k v:Int):upd m k v k=v:=by simp [upd]
theorem xm (m:Int→Int) (k v x:Int) (h:x≠k):upd m k v x=m x:=by simp [upd,h]
open Go.Maps Go.ChangeMaps Go.MapKept
theorem Tryz.keyI:Keyed Tryz.prog 3:=int_keyed Tryz.underlying3
def bp (k:Int):Prop:= -9223372036854775808≤k∧k<9223372036854775808
theorem bp.wf {k:Int} (h:bp k):(Lit.int .i64 k).wf=true:=by
 obtain ⟨h1,h2⟩:=h;simp [Lit.wf,IntKind.min,IntKind.max,IntKind.signed,IntKind.bits];omega
structure om (b:Nat) (w w':World):Prop where
 os:w'.os=w.os
 tape:w'.tape=w.tape
 output:w'.output=w.output
 drawn:w.drawn≤w'.drawn
 size:w'.heap.size=w.heap.size
 block: ∀k,k≠b→w'.heap[k]?=w.heap[k]?
theorem om.ext {b:Nat} {w0 w w':World} (t:om b w w') (h:Ext w0 w) (hb:w0.heap.size≤b):Ext w0 w':=
 ⟨⟨t.os.trans h.below.os,t.tape.trans h.below.tape,t.output.trans h.below.output,by rw [t.size];exact h.size,fun k hk=>by rw [t.block k (by omega)];exact h.below.block k hk⟩,Nat.le_trans h.drawn t.drawn⟩
theorem om.cell {b:Nat} {w w':World} (t:om b w w') {p:Addr} {v:Value} (hp:p.block≠b) (h:w.cell? p=some v):w'.cell? p=some v:=by
 unfold World.cell? at*;rw [t.block _ hp];exact h
theorem Ag {b:Nat} {w w':World} (h:w.mapTurned w' b):om b w w':=by
 have g:=h.grown;obtain ⟨es,clock,es',clock',hb,rfl⟩:=h;exact ⟨rfl,rfl,rfl,Nat.le_refl _,by simp [setBlock],fun k hk=>heap_setBlock_other hb _ hk⟩
def cZ (w:World) (b n:Nat) (K:Int→Prop) (f:Int→Int):Prop:=
 ∃D:DataW Unit,w.ownsMap prog 3 (plainElem prog 3) b n D∧(∀k,(Maps.has D (.int .i64 k)=true↔K k))∧ ∀k,D.atKey (.int .i64 k) (.lit (.int .i64 0))= .lit (.int .i64 (f k))
theorem cZ.lt {w:World} {b n:Nat} {K:Int→Prop} {f:Int→Int} (h:cZ w b n K f):b<w.heap.size:=by obtain ⟨D,h1,_⟩:=h;exact h1.lt
theorem cZ.same {w w':World} {b n:Nat} {K:Int→Prop} {f:Int→Int} (h:cZ w b n K f) (e:w'.heap[b]?=w.heap[b]?):cZ w' b n K f:=by
 obtain ⟨D,⟨es,clock,hb,r⟩,h2⟩:=h;exact ⟨D,⟨es,clock,by rw [e];exact hb,r⟩,h2⟩
theorem cZ.ext {w w':World} {b n:Nat} {K:Int→Prop} {f:Int→Int} (h:cZ w b n K f) (e:Ext w w'):cZ w' b n K f:=h.same (e.below.block b h.lt)
theorem cZ.setCell {w:World} {b n:Nat} {K:Int→Prop} {f:Int→Int} (h:cZ w b n K f) (p:Addr) (v:Value) (hp:b≠p.block):cZ (w.setCell p v) b n K f:=h.same (Below.heap_setCell _ _ _ _ (by omega))
theorem CG {k:Int}:WideAt.IsKeyLit (.int .i64 k):=trivial
theorem int_ne {k x:Int} (h:x≠k):Lit.int .i64 x≠Lit.int .i64 k:=fun e=>h (by cases e;rfl)
theorem cZ.store {w:World} {b n:Nat} {K:Int→Prop} {f:Int→Int} (h:cZ w b n K f) (hn:n<1000000) {k v:Int} (hk:bp k) (hv:bp v):
 ∃w',(Instr.mapUpdate 181 (.map (some b)) (.int .i64 k) (.int .i64 v)).run prog w= .ok () w'∧cZ w' b (n+1) (fun x=>x=k∨K x) (upd f k v)∧om b w w':=by
 obtain ⟨D,h1,h2,h3⟩:=h;obtain ⟨w',hr,ho,ht⟩:=h1.store Tryz.keyI underlying181 (by unfold maxLen;omega) (keyOf_int_mk underlying3 hk.wf) (plainElem_int underlying3 hv.wf);have hm:=h1.isMap;refine ⟨w',hr,⟨_,ho,fun x=> ?_,fun x=> ?_⟩,Ag ht⟩
 ·by_cases hx:x=k
  ·subst hx
   rw [has_put_same hm CG];simp
  ·rw [has_put_other (int_ne hx),h2 x]
   simp [hx]
 ·by_cases hx:x=k
  ·subst hx
   rw [atKey_put_same hm CG,Ae]
  ·rw [atKey_put_other (int_ne hx),h3 x,xm _ _ _ _ hx]
def kL (w:World) (b r n:Nat) (K:Int→Prop) (f:Int→Int) (left:Int→Prop) (cnt:Nat):Prop:=
 ∃(D:DataW Unit) (lf:Lit→Bool),w.ranges prog 3 (plainElem prog 3) b r n D lf cnt∧(∀k,(Maps.has D (.int .i64 k)=true↔K k))∧(∀k,D.atKey (.int .i64 k) (.lit (.int .i64 0))= .lit (.int .i64 (f k)))∧ ∀k,(lf (.int .i64 k)=true↔left k)
theorem kL.ne {w:World} {b r n cnt:Nat} {K left:Int→Prop} {f:Int→Int} (h:kL w b r n K f left cnt):r≠b:=by
 obtain ⟨D,lf,h1,_⟩:=h;exact h1.ne
def gi (w w':World):Prop:= ∀p v,w.cell? p=some v→w'.cell? p=some v
theorem gi.refl (w:World):gi w w:=fun _ _ h=>h
theorem gi.trans {a b c:World} (h:gi a b) (k:gi b c):gi a c:=fun p v e=>k p v (h p v e)
theorem Ext.keeps {w w':World} (h:Ext w w'):gi w w':=fun _ _ e=>aj h e
theorem cZ.KF {w:World} {b n:Nat} {K:Int→Prop} {f:Int→Int} (h:cZ w b n K f) {p:Addr} {v:Value} (e:w.cell? p=some v):p.block≠b:=by
 obtain ⟨D,⟨es,clock,hb,_⟩,_⟩:=h;intro hp;unfold World.cell? at e;rw [hp,hb]at e;simp at e
theorem ep.keeps {w w':World} {a:Option Addr} {c:Nat} {l:List Nat} (h:ep w a c l) (k:gi w w'):ep w' a c l:=
 ⟨h.le,h.cap,h.short,h.GJ,h.small,fun i hi=>by obtain ⟨b,o,ha,hc⟩:=h.cell i hi;exact ⟨b,o,ha,k _ _ hc⟩⟩
theorem Raw.keeps {w w':World} {a:Option Addr} {k c n:Nat} (h:Raw w a k c n) (e:gi w w'):Raw w' a k c n:=by
 obtain ⟨l,h1,h2,h3⟩:=h;exact ⟨l,h1,h2,h3.keeps e⟩
theorem gW.keeps {w w':World} {r:ct} {q:Rat} {L:Nat} (h:gW w r q L) (e:gi w w'):gW w' r q L:=by
 obtain ⟨n,m,h1,h2,h3⟩:=h;exact ⟨n,m,h1.keeps e,h2.keeps e,h3⟩
theorem cT.keeps {w w':World} {r:ct} {q:Rat} {B:Nat} (h:cT w r q B) (e:gi w w'):cT w' r q B:=⟨h.s,h.k,h.j,h.num.keeps e,h.den.keeps e,h.fa,h.fb⟩
theorem og.keeps {w w':World} {a:Option Addr} {c:Nat} {rs:List ct} {qs:List Rat} {L:Nat} (h:og w a c rs qs L) (e:gi w w'):og w' a c rs qs L:=
 ⟨h.len,h.le,h.cap,h.short,fun i hi=>by obtain ⟨b,o,ha,c0,c1,c2⟩:=h.cell i hi;exact ⟨b,o,ha,e _ _ c0,e _ _ c1,e _ _ c2⟩,fun i hi=>(h.num i hi).keeps e⟩
theorem aD.keeps {w w':World} {a:Option Addr} {c:Nat} {xs:List Int} (h:aD w a c xs) (e:gi w w'):aD w' a c xs:=
 ⟨h.le,h.cap,fun i hi=>by obtain ⟨b,o,ha,hc⟩:=h.cell i hi;exact ⟨b,o,ha,e _ _ hc⟩,h.Nf⟩
structure ar (b:Nat) (w w':World):Prop where
 os:w'.os=w.os
 tape:w'.tape=w.tape
 output:w'.output=w.output
 drawn:w.drawn≤w'.drawn
 size:w.heap.size≤w'.heap.size
 block: ∀k,k<w.heap.size→k≠b→w'.heap[k]?=w.heap[k]?
theorem ar.refl (b:Nat) (w:World):ar b w w:=⟨rfl,rfl,rfl,Nat.le_refl _,Nat.le_refl _,fun _ _ _=>rfl⟩
theorem Ext.but {w w':World} (h:Ext w w') (b:Nat):ar b w w':=⟨h.below.os,h.below.tape,h.below.output,h.drawn,h.size,fun k hk _=>h.below.block k hk⟩
theorem om.but {b:Nat} {w w':World} (t:om b w w'):ar b w w':=⟨t.os,t.tape,t.output,t.drawn,by rw [t.size];exact Nat.le_refl _,fun k _ hk=>t.block k hk⟩
theorem ar.trans {b:Nat} {w w1 w2:World} (h:ar b w w1) (k:ar b w1 w2):ar b w w2:=
 ⟨k.os.trans h.os,k.tape.trans h.tape,k.output.trans h.output,Nat.le_trans h.drawn k.drawn,Nat.le_trans h.size k.size,fun x hx hb=>by rw [k.block x (Nat.lt_of_lt_of_le hx h.size) hb];exact h.block x hx hb⟩
theorem ar.ext {b:Nat} {w0 w w':World} (k:ar b w w') (h:Ext w0 w) (hb:w0.heap.size≤b):Ext w0 w':=
 ⟨⟨k.os.trans h.below.os,k.tape.trans h.below.tape,k.output.trans h.below.output,Nat.le_trans h.size k.size,fun x hx=>by rw [k.block x (Nat.lt_of_lt_of_le hx h.size) (by omega)];exact h.below.block x hx⟩,Nat.le_trans h.drawn k.drawn⟩
theorem ar.setCell {b:Nat} {w w':World} (h:ar b w w') {p:Addr} (hp:w.heap.size≤p.block) (v:Value):ar b w (w'.setCell p v):=
 ⟨h.os,h.tape,h.output,h.drawn,by simpa [World.setCell]using h.size,fun k hk hb=>by rw [Below.heap_setCell _ _ _ _ (by omega)];exact h.block k hk hb⟩
theorem ar.keeps {b n:Nat} {w w':World} {K:Int→Prop} {f:Int→Int} (h:ar b w w') (hm:cZ w b n K f):gi w w':=by
 intro p v e;have h1:=hm.KF e;have h2:=bm e;unfold World.cell? at*;rw [h.block _ h2 h1];exact e
def aR (l:List Int) (i:Nat):Int:=l[i]?.getD 0
theorem df {l:List Int} {i:Nat} (h:i<l.length):aR l i=l[i]:=by unfold aR;rw [List.getElem?_eq_getElem h];rfl
end Go.Proofs.YtkpngkdgphojlaaGreat
