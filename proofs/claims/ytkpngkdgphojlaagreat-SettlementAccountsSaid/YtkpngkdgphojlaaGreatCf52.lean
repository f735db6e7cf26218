/- Texts of the proof. -/
import Derived.Test.YtkpngkdgphojlaaGreatCf41
import Derived.Test.YtkpngkdgphojlaaGreatCf51
set_option linter.all false
set_option maxHeartbeats 400000
namespace Go.Proofs.YtkpngkdgphojlaaGreat
open Go.Proofs.Tryz
open Go.RowKit
theorem yP (A:List Int) (m:Nat) (x:Int):(ji (A++List.replicate (m+1) 0)).set A.length (.int .i64 x)=ji ((A++ [x])++List.replicate m 0):=by
 unfold ji;rw [←List.map_set,List.set_append_right _ _ (by omega),Nat.sub_self,List.replicate_succ,List.set_cons_zero,List.append_assoc];rfl
theorem wC (n:Nat):List.replicate n (Value.int .i64 0)=ji (List.replicate n 0):=by simp [ji]
theorem xN (l:List fG) (r:fG):ep (l++ [r])=ep l++r.cells:=by simp [ep]
def VY (x y:Int):Int:=if x=0 then y else x
theorem PM (w:World) (b:Nat) (x y:Int) (h:aQ w b 3 [.int .i64 x,.int .i64 y]):
 Calls prog 115 #[.slice (some ⟨b,0,none⟩) 2 2] w fun e w'=>e= .returned (.int .i64 (VY x y))∧Ext w w':=by
 have c0:=h.cell 0;have c1:=h.cell 1;simp at c0 c1;by_cases hx:x=0
 ·subst hx
  by_cases hy:y=0
  ·subst hy
   go_enter func115,ntmps115
   go_wp2
   refine wp_loop_rounds 3 ?_;rw [rounds_succ]
   go_wp2
   rw [rounds_succ];go_wp2
   rw [rounds_succ];go_wp2
   go_ret;exact ⟨rfl,Ext.refl _⟩
  ·have hb:(y !=0)=true:=by simpa using hy
   go_enter func115,ntmps115
   go_wp2
   refine wp_loop_rounds 3 ?_;rw [rounds_succ]
   go_wp2
   rw [rounds_succ];go_wp2
   go_ret;exact ⟨rfl,Ext.refl _⟩
 ·have hb:(x !=0)=true:=by simpa using hx
  go_enter func115,ntmps115
  go_wp2
  refine wp_loop_rounds 3 ?_;rw [rounds_succ]
  go_wp2
  go_ret;exact ⟨cd (by unfold VY;rw [if_neg hx]),Ext.refl _⟩
theorem nJ {w:World} {o:Obj} {p:Addr} {x:Value} (h:w.cell? p=some x):(w.alloc o).cell? p=some x:=ak ((Ext.refl _).alloc _) h
def lZ (fs:List Rat) (x y:Nat):Int:=VY (lI (fs[y]?.getD 0) (fs[x]?.getD 0)) (jd (x:Int) (y:Int))
end Go.Proofs.YtkpngkdgphojlaaGreat
namespace Go.Proofs
open Go.Shelf
end Go.Proofs
namespace Go.Proofs.YtkpngkdgphojlaaGreat
open Go.Proofs.Tryz
open Go.RowKit Go.Sort Go.Shelf
def lK (fs:List Rat) (x y:Nat):Prop:=fs[y]?.getD 0<fs[x]?.getD 0∨(fs[y]?.getD 0=fs[x]?.getD 0∧x<y)
theorem Ao {x y:Int}:jd x y<0↔x<y:=by
 unfold jd;split
 ·simp [*]
 ·split<;>simp [*]
theorem rY (fs:List Rat) (x y:Nat):lZ fs x y<0↔lK fs x y:=by
 unfold lZ VY lK;by_cases h:lI (fs[y]?.getD 0) (fs[x]?.getD 0)=0
 ·rw [if_pos h,Ao,Ac.1 h]
  constructor
  ·intro h1;exact Or.inr ⟨rfl,by omega⟩
  ·rintro (h1|⟨_,h1⟩)
   ·exact absurd h1 Rat.lt_irrefl
   ·omega
 ·rw [if_neg h,Ml]
  constructor
  ·exact Or.inl
  ·rintro (h1|⟨h1,_⟩)
   ·exact h1
   ·exact absurd (Ac.2 h1) h
theorem tZ (fs:List Rat) (x:Nat): ¬lK fs x x:=by
 rintro (h|⟨_,h⟩)
 ·exact absurd h Rat.lt_irrefl
 ·omega
theorem qm {fs:List Rat} {x y z:Nat} (h1:lK fs x y) (h2:lK fs y z):lK fs x z:=by
 unfold lK at*;generalize fs[x]?.getD 0=a at*;generalize fs[y]?.getD 0=b at*;generalize fs[z]?.getD 0=c at*;rcases h1 with h1|⟨rfl,h1⟩
 ·rcases h2 with h2|⟨rfl,h2⟩
  ·exact Or.inl (by grind)
  ·exact Or.inl h1
 ·rcases h2 with h2|⟨rfl,h2⟩
  ·exact Or.inl h2
  ·exact Or.inr ⟨rfl,by omega⟩
theorem qo (fs:List Rat) (x y:Nat) (h1: ¬lK fs x y) (h2: ¬lK fs y x):x=y:=by
 unfold lK at*;generalize fs[x]?.getD 0=a at*;generalize fs[y]?.getD 0=b at*;simp only [not_or,not_and,Nat.not_lt]at h1 h2;have e:a=b:=Rat.le_antisymm (Rat.not_lt.1 h1.1) (Rat.not_lt.1 h2.1);have i1:=h1.2 e.symm;have i2:=h2.2 e;omega
theorem t_ {fs:List Rat} {x y z:Nat} (h1: ¬lK fs x y) (h2: ¬lK fs y z): ¬lK fs x z:=by
 intro h3;by_cases e1:x=y
 ·subst e1;exact h2 h3
 ·have h4:lK fs y x:=Classical.byContradiction (fun h=>e1 (qo fs x y h1 h))
  exact h2 (qm h4 h3)
def pQ (b:Nat) (w w':World):Prop:= ∀k,k<w.heap.size→k≠b→w'.heap[k]?=w.heap[k]?
theorem pQ.cell {b:Nat} {w w':World} (h:pQ b w w') {p:Addr} {v:Value} (hp:p.block≠b) (hc:w.cell? p=some v):w'.cell? p=some v:=by
 have:=cG hc;unfold World.cell? at*;rw [h _ this hp];exact hc
theorem pQ.raw {b:Nat} {w w':World} (h:pQ b w w') {a:Option Addr} {k c n:Nat} (hr:Raw w a k c n) (hb: ∀x,a=some x→x.block≠b):Raw w' a k c n:=by
 obtain ⟨l,h1,h2,h3⟩:=hr
 exact ⟨l,h1,h2,h3.le,h3.cap,h3.short,h3.Ia,h3.small,fun i hi=>by
  obtain ⟨b',o,ha,hc⟩:=h3.cell i hi;exact ⟨b',o,ha,h.cell (p:=⟨b',o+i,none⟩) (show b'≠b from hb ⟨b',o,none⟩ ha) hc⟩⟩
theorem nV {α:Type} [Inhabited α] (enc:α→Value) (w:World) (blk off m:Nat) (d:Array α) (os:Array Obj):pQ blk w (sortWorld enc w blk off m d os):=by
 intro k hk hne;unfold sortWorld;rw [heap_grow_old _ _ (by simpa [Sort.ahead]using hk)];unfold putRow mapBlock;simp [Array.getElem?_modify,Ne.symm hne,Sort.ahead]
def gO (fs:List Rat) (n:Nat):List (Fin n):=(List.finRange n).mergeSort (fun x y=> !(ltOf (fun a b:Fin n=>lZ fs a b) y x))
def gZ (fs:List Rat) (n j:Nat):Nat:=((gO fs n)[j]?.map (·.val)).getD 0
structure EA (fs:List Rat) (n blk:Nat) (w w':World):Prop where
 cell: ∀j,j<n→w'.cell? ⟨blk,j,none⟩=some (.int .i64 (gZ fs n j:Nat))
 agree:pQ blk w w'
 size:w.heap.size≤w'.heap.size
 os:w'.os=w.os
 tape:w'.tape=w.tape
 output:w'.output=w.output
 drawn:w.drawn≤w'.drawn
def qp:Rat:=((281474976710656:Int):Rat)
def CC (q:Rat):Prop:=q≤qp∧ -q≤qp
def jP (l:List Int):Int:=l.sum
def dP (qs:List Rat):List Rat:=qs.map fun q=>q-((q.floor:Int):Rat)
def iH (fs:List Rat) (n:Nat) (l:List Int):Nat→List Int
 |0=>l
 |t+1=>(iH fs n l t).set (gZ fs n t) ((iH fs n l t)[gZ fs n t]?.getD 0+1)
def Kt (l:List Int) (w:World) (e:Ending) (w':World):Prop:= ∃b,e= .returned (.tuple #[.slice (some ⟨b,0,none⟩) l.length l.length,.int .i64 0])∧w.heap.size≤b∧aQ w' b 3 (ji l)∧Ext w w'
theorem oT (l:List Rat):dF (l.take 0)=0:=rfl
theorem Ku (l:List Rat) (L:Nat) (h: ∀i (hi:i<l.length),mR l[i]≤L): ∀i,i≤l.length→mR (dF (l.take i))≤i*(L+1)+1:=by
 intro i;induction i with
 |zero=>intro _;rw [oT,Nat.zero_mul,Nat.zero_add];show mR (((0:Int):Rat))≤1;rw [nI];decide
 |succ i ih=>
  intro hi;rw [py (by omega)];have h1:=ih (by omega);have h2:=h i (by omega);have h3:=Ag (dF (l.take i)) l[i];rw [Nat.succ_mul];omega
def yQ (qs:List Rat):List Int:=iH (dP qs) qs.length (qs.map Rat.floor) ((dF qs).floor-jP (qs.map Rat.floor)).toNat
theorem nK (fs:List Rat) (n:Nat):(gO fs n).Perm (List.finRange n):=List.mergeSort_perm _ _
theorem lB (fs:List Rat) (n:Nat):(gO fs n).length=n:=by simpa using(nK fs n).length_eq
theorem wE (fs:List Rat) (n:Nat):(gO fs n).Pairwise (fun(x y:Fin n)=> ¬lK fs y x):=by
 have e: ∀a b:Fin n,(!(ltOf (fun a b:Fin n=>lZ fs a b) b a))=true↔ ¬lK fs b a:=by
  intro a b;unfold ltOf;rw [Bool.not_eq_true',decide_eq_false_iff_not,rY]
 have:=List.pairwise_mergeSort (le:=fun x y:Fin n=> !(ltOf (fun a b:Fin n=>lZ fs a b) y x)) (fun a b c h1 h2=>by
  rw [e]at*;exact t_ h2 h1) (fun a b=>by
  rw [Bool.or_eq_true,e,e];by_cases h:lK fs b a
  ·right;intro h2;exact tZ fs _ (qm h h2)
  ·left;exact h) (List.finRange n)
 exact this.imp (fun{a b} h=>(e a b).1 h)
theorem rZ (fs:List Rat) (n j:Nat) (h:j<(gO fs n).length):gZ fs n j=((gO fs n)[j]).val:=by
 unfold gZ;rw [List.getElem?_eq_getElem h];rfl
theorem Kv (fs:List Rat) (n j k:Nat) (hj:j<n) (hk:k<n) (h:gZ fs n j=gZ fs n k):j=k:=by
 have hl:=lB fs n;rw [rZ fs n j (by omega),rZ fs n k (by omega)]at h;have hn:(gO fs n).Nodup:=(nK fs n).nodup_iff.2 (List.nodup_finRange n);have hp:=List.pairwise_iff_getElem.1 hn;have he:=Fin.ext h;rcases Nat.lt_trichotomy j k with h1|h1|h1
 ·exact absurd he (hp j k (by omega) (by omega) h1)
 ·exact h1
 ·exact absurd he.symm (hp k j (by omega) (by omega) h1)
theorem yS (fs:List Rat) (n j k:Nat) (hj:j<k) (hk:k<n):lK fs (gZ fs n j) (gZ fs n k):=by
 have hl:=lB fs n;have h1:=List.pairwise_iff_getElem.1 (wE fs n) j k (by omega) (by omega) hj;rw [←rZ,←rZ]at h1;refine Classical.byContradiction fun h2=> ?_;have:=Kv fs n j k (by omega) hk (qo fs _ _ h2 h1);omega
theorem ij.keep {w w':World} {r:fG} {q:Rat} {L:Nat} {row:Option Nat} (h:ij w r q L) (hb: ∀k,k<w.heap.size→some k≠row→w'.heap[k]?=w.heap[k]?) (ho:VX r row):ij w' r q L:=by
 have key: ∀{a:Option Addr} {k c n:Nat},Raw w a k c n→(0<k→ ∀x,a=some x→some x.block≠row)→Raw w' a k c n:=by
  intro a k c n hr ho;obtain ⟨l,e1,e2,e3⟩:=hr;refine ⟨l,e1,e2,e3.le,e3.cap,e3.short,e3.Ia,e3.small,fun i hi=> ?_⟩;obtain ⟨b',o,ha,hc⟩:=e3.cell i hi;refine ⟨b',o,ha,?_⟩;have hlt:=cG hc;unfold World.cell? at*;rw [hb _ hlt (ho (by omega) ⟨b',o,none⟩ ha)];exact hc
 obtain ⟨n,m,g1,g2,g3⟩:=h;exact ⟨n,m,key g1 ho.1,key g2 ho.2,g3⟩
theorem VX.next {w:World} {r:fG} {q:Rat} {L:Nat} {v v':Value} (ho:VX r v.ownBlock) (h:ij w r q L) (hv:v'.ownBlock=v.ownBlock∨ ∃g,v'.ownBlock=some g∧w.heap.size≤g):VX r v'.ownBlock:=by
 obtain ⟨n,m,g1,g2,g3⟩:=h;rcases hv with hv|⟨g,hg,hs⟩
 ·rw [hv];exact ho
 ·rw [hg]
  constructor
  ·intro hk x hx e;cases e;have:=g1.lt hk x hx;omega
  ·intro hk x hx e;cases e;have:=g2.lt hk x hx;omega
open Go.ChangeShapes Go.WideShapes Go.ChangeAt
open Go.Deep
open Go
open Go.Maps Go.ChangeMaps Go.MapKept
theorem wT.arr {b g:Nat} {w w':World} (t:wT b w w') {T:TypeId} {vs:List Value} (hg:g≠b) (h:aQ w g T vs):aQ w' g T vs:=by
 unfold aQ;rw [t.block _ hg];exact h
end Go.Proofs.YtkpngkdgphojlaaGreat
