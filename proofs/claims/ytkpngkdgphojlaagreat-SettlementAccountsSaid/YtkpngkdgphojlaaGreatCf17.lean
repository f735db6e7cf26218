/- Texts of the proof. -/
import Derived.Test.YtkpngkdgphojlaaGreatCf7
set_option linter.all false
set_option maxHeartbeats 1000000
set_option maxRecDepth 100000
namespace Go.Proofs.YtkpngkdgphojlaaGreat
open Go.Proofs.Tryz
open Go.RowKit
structure oA (c:ai):Prop where
 aj:c.aj.length≤1000000
 lines:c.lines.length≤1000000
 aq:c.aq.length≤1000000
 stores:c.stores.length≤1000000
 aB:c.aB.length≤1000000
 outs:c.outs.length≤1000000
 moves: ∀o∈c.outs,o.moves.length≤5900000000000
theorem oA.names {c:ai} (h:oA c) (k:Int):(dU c k).length≤1000000:=by
 unfold dU;have h1:=h.aj;have h2:=h.lines;have h3:=h.aq;have h4:=h.stores;have h5:=h.aB;have h6:=h.outs
 repeat' split
 all_goals simp
 all_goals assumption
def kz (c:ai) (e:Int) (n:Nat):Int:=(List.range n).foldl (fun e (j:Nat)=>nd e (decide (((dU c ((j:Int)+2)).length:Int)≤mY ((j:Int)+2))) 8) e
theorem fM (c:ai) (e:Int) (n:Nat):kz c e (n+1)=nd (kz c e n) (decide (((dU c ((n:Int)+2)).length:Int)≤mY ((n:Int)+2))) 8:=by
 unfold kz;rw [List.range_succ,List.foldl_append];rfl
def jq (c:ai) (e:Int):Int:=kz c (nd (fZ (nd e (bP 1 24 [c.hours]) 3) c c.aA 0 1048576) (bP 1 32 [(c.aj.length:Int)]) 8) 5
theorem Gw (w0 V:World) (K:Nat) (c:ai) (e:Int) (hK:w0.heap.size≤K) (hV:Ext w0 V) (hc:a_ w0 c) (hl:oA c) (h:FE V K e):
 Calls prog 52 #[.pointer (some ⟨K,0,none⟩),.agg (C8 c)] V fun e' w'=>sy V K (jq c e) e' w':=by
 try unfold C8
 have KF:=h.lt;have hbl:c.aj.length≤9223372036854775807:=by have:=hl.aj;omega
 unfold jq;obtain ⟨e1,CI⟩: ∃e1,e1=nd e (bP 1 24 [c.hours]) 3:=⟨_,rfl⟩;obtain ⟨e2,Ge⟩: ∃e2,e2=fZ e1 c c.aA 0 1048576:=⟨_,rfl⟩;obtain ⟨e3,MX⟩: ∃e3,e3=nd e2 (bP 1 32 [(c.aj.length:Int)]) 8:=⟨_,rfl⟩;rw [←CI,←Ge,←MX];have wW:=ae CI;have zk:=ae Ge;have wX:=ae MX
 have Oz:=ae hc.hours;have OA:=ae (yg hbl);have ET:=ae hc.aA
 have f_:=ae hc;have HV:=ae hV;have df:=ae hK;have HH:=ae h;have HLE:=ae hl
 clear CI Ge MX hc hV hK h hl;go_enter func52,ntmps52
 go_upto_region 1 with fail
 obtain ⟨W0,hW,x0,Z0,A0⟩:=aX V 32 c.cells;rw [show V.alloc (.cells (C8 c) 32)=W0 from hW.symm];clear hW;obtain ⟨B,hB⟩: ∃B,B=V.heap.size:=⟨_,rfl⟩;rw [←hB]at A0⊢;have gQ:B≠K:=by omega
 have HF:=ae (HH.o.ext x0);have HB:=ae A0;have kV:=ae (x0.but K);have gV:=ae (HV.o.trans x0)
 clear A0 Z0 x0 hB HH;obtain ⟨k0,-⟩:=ai.at HB.o;go_wp2_with fail
 refine (zb W0 c.hours 1 24 Oz.o).mono ?_;rintro e' w1 ⟨rfl,rfl⟩;go_wp2_with fail
 refine (cP _ K _ _ _ _ _ _ (HF.o.alloc _)).mono ?_;rintro e' W1 ⟨rfl,hf,hx⟩;rw [←wW.o]at hf;have vh:=ae hf;have Dm:=ae ((HB.o.alloc' _).but hx gQ);have nY:=((ar.refl K W0).alloc' _).trans hx
 have Ba:=ae (kV.o.trans nY);have A_:=ae (nY.ext gV.o df.o)
 clear hf hx nY k0 HF HB kV gV;obtain ⟨k0,k1,k2,k3,k4,k5,k6,k7⟩:=ai.at Dm.o;go_wp2_with fail
 refine (pW w0 W1 K c _ c.ra c.rc c.aA _ _ _ _ _ df.o A_.o ET.o vh.o).mono ?_;rintro e' W2 ⟨rfl,hf,hx⟩;rw [←zk.o]at hf;have HF:=ae hf;have HB:=ae (Dm.o.but hx gQ)
 have kV:=ae (Ba.o.trans hx);have gV:=ae (hx.ext A_.o df.o)
 clear hf hx k0 k1 k2 k3 k4 k5 k6 k7 vh Dm Ba A_;obtain ⟨-,-,k2,-⟩:=ai.at HB.o;go_wp2_with fail
 refine (zb W2 (c.aj.length:Int) 1 32 OA.o).mono ?_;rintro e' w1 ⟨rfl,rfl⟩;go_wp2_with fail
 refine (cP _ K _ _ _ _ _ _ (HF.o.alloc _)).mono ?_;rintro e' W3 ⟨rfl,hf,hx⟩;rw [←wX.o]at hf;have vh:=ae hf;have Dm:=ae ((HB.o.alloc' _).but hx gQ);have nY:=((ar.refl K W2).alloc' _).trans hx
 have Ba:=ae (kV.o.trans nY);have A_:=ae (nY.ext gV.o df.o)
 clear hf hx nY k2 HF HB kV gV hbl;go_wp2_with fail
 go_loopw [4] (fun ii wr=> ∃n:Nat,n≤5∧FE wr K (kz c e3 n)∧ar K V wr∧aQ wr B 32 c.cells∧ii= .int .i64 ((n:Int)+2)) (fun ii _=>(7-intOf ii).toNat)
 case atStart=>exact ⟨0,by omega,vh.o,Ba.o,Dm.o,rfl⟩
 case round=>
  obtain ⟨n,hn,hF,hX,hB,rfl⟩:=hrel;clear vh Ba Dm A_;by_cases hlt:n<5
  ·have HF:=ae hF;have HX:=ae hX;have HB:=ae hB
   have gV:=ae (hX.ext HV.o df.o);have HS:=ae (fM c e3 n);obtain ⟨wK,CH⟩: ∃wK,dU c ((n:Int)+2)=wK:=⟨_,rfl⟩;have Qp:wK.length≤1000000:=by rw [←CH];exact HLE.o.names _
   have Dd:=ae CH;rw [CH]at HS;have HMO:=ae (fun U=>Iz U ((n:Int)+2) (by omega));have HNA:=ae (ya w0 wr c ((n:Int)+2) wK CH (by omega) gV.o f_.o Qp);generalize mY ((n:Int)+2)=mo at*;generalize kz c e3 n=e4 at*;obtain ⟨k0,k1,k2,k3,k4,k5,k6,k7⟩:=ai.at hB;clear hF hX hB CH;go_wp2_with fail
   refine HNA.o.mono ?_;rintro e' w1 ⟨a,cap,rfl,hS,x1,-⟩;have eE:=ae x1;clear k0 k1 k2 k3 k4 k5 k6 k7 hS x1;go_wp2_with fail
   refine (HMO.o w1).mono ?_;rintro e' w2 ⟨rfl,x2⟩;have ez:=ae (eE.o.trans x2);clear x2;go_wp2_with fail
   refine (cP w2 K _ _ _ _ _ _ (HF.o.ext ez.o)).mono ?_;rintro e' w3 ⟨rfl,hf,hx⟩;rw [←HS.o]at hf;have HR:=ae hf;have xg:=ae ((HB.o.ext ez.o).but hx gQ);have tK:=ae (HX.o.trans ((ez.o.but K).trans hx));clear hf hx;go_wp2_with fail
   exact ⟨⟨n+1,by omega,HR.o,tK.o,xg.o,by go_num⟩,by simp only [intOf];omega⟩
  ·obtain rfl:n=5:=by omega
   go_wp2_with fail
   exact bodyPost_end (v:= .tuple #[]) (by simp [results,results52,go_sem]) rfl ⟨rfl,hF,hX⟩
inductive jg (E:List (Nat×Nat)):Nat→Nat→Prop
 |refl (a:Nat):jg E a a
 |Du {a b:Nat}:(a,b)∈E→jg E a b
 |symm {a b:Nat}:jg E a b→jg E b a
 |trans {a b c:Nat}:jg E a b→jg E b c→jg E a c
theorem jg.mono {E F:List (Nat×Nat)} (h: ∀p∈E,p∈F) {a b:Nat} (c:jg E a b):jg F a b:=by
 induction c with
 |refl a=>exact .refl a
 |Du h'=>exact .Du (h _ h')
 |symm _ ih=>exact ih.symm
 |trans _ _ Sx Sy=>exact Sx.trans Sy
theorem jg.label {E:List (Nat×Nat)} {α:Type} (f:Nat→α) (h: ∀p∈E,f p.1=f p.2) {a b:Nat} (c:jg E a b):f a=f b:=by
 induction c with
 |refl a=>rfl
 |Du h'=>exact h _ h'
 |symm _ ih=>exact ih.symm
 |trans _ _ Sx Sy=>exact Sx.trans Sy
def kA (f:Nat→Nat) (b:Nat):Bool:=(List.range b).all fun k=>f k !=f b
theorem gJ (f:Nat→Nat) (b:Nat):kA f b=true↔ ∀k,k<b→f k≠f b:=by
 unfold kA;rw [List.all_eq_true];constructor
 ·intro h k hk;simpa using h k (List.mem_range.2 hk)
 ·intro h k hk;simpa using h k (List.mem_range.1 hk)
def cls (f:Nat→Nat) (n:Nat):Nat:=(List.range n).countP (kA f)
theorem I8 (f:Nat→Nat):cls f 0=0:=rfl
theorem qV (f:Nat→Nat) (n:Nat):cls f (n+1)=cls f n+if kA f n then 1 else 0:=by
 unfold cls;rw [List.range_succ,List.countP_append,List.countP_singleton]
theorem OB (f:Nat→Nat) (n:Nat):cls f n≤n:=by
 induction n with
 |zero=>exact Nat.le_refl _
 |succ n ih=>rw [qV];split<;>omega
def merge (f:Nat→Nat) (x y:Nat) (b:Nat):Nat:=if f b=y then x else f b
theorem Gx (f:Nat→Nat) (x y:Nat) (pF:x≠y) (n:Nat):
 cls (merge f x y) n+(if(∃a,a<n∧f a=x)∧(∃a,a<n∧f a=y)then 1 else 0)=cls f n:=by
 induction n with
 |zero=>simp [I8]
 |succ n ih=>
  rw [qV,qV]
  have hex: ∀z,(∃a,a<n+1∧f a=z)↔((∃a,a<n∧f a=z)∨f n=z):=by
   intro z;constructor
   ·rintro ⟨a,ha,e⟩
    by_cases h:a=n
    ·exact Or.inr (h▸e)
    ·exact Or.inl ⟨a,by omega,e⟩
   ·rintro (⟨a,ha,e⟩|e)
    ·exact ⟨a,by omega,e⟩
    ·exact ⟨n,by omega,e⟩
  by_cases hx:f n=x
  ·have hy':f n≠y:=fun e=>pF (hx▸e)
   have hm:merge f x y n=x:=by unfold merge;rw [if_neg hy',hx]
   have h1:kA (merge f x y) n=true↔(¬(∃a,a<n∧f a=x))∧ ¬(∃a,a<n∧f a=y):=by
    rw [gJ,hm];constructor
    ·intro h
     refine ⟨fun⟨a,ha,e⟩=>h a ha ?_,fun⟨a,ha,e⟩=>h a ha ?_⟩
     ·unfold merge;split<;>first|rfl|exact e
     ·unfold merge;rw [if_pos e]
    ·rintro ⟨h1,h2⟩ k hk e
     unfold merge at e;split at e
     ·rename_i h;exact h2 ⟨k,hk,h⟩
     ·exact h1 ⟨k,hk,e⟩
   have h2:kA f n=true↔ ¬(∃a,a<n∧f a=x):=by
    rw [gJ,hx];exact ⟨fun h ⟨a,ha,e⟩=>h a ha e,fun h k hk e=>h ⟨k,hk,e⟩⟩
   simp only [hex];by_cases p1: ∃a,a<n∧f a=x<;>by_cases p2: ∃a,a<n∧f a=y<;>simp_all<;>omega
  ·by_cases hy:f n=y
   ·have hm:merge f x y n=x:=by unfold merge;rw [if_pos hy]
    have h1:kA (merge f x y) n=true↔(¬(∃a,a<n∧f a=x))∧ ¬(∃a,a<n∧f a=y):=by
     rw [gJ,hm];constructor
     ·intro h
      refine ⟨fun⟨a,ha,e⟩=>h a ha ?_,fun⟨a,ha,e⟩=>h a ha ?_⟩
      ·unfold merge;split<;>first|rfl|exact e
      ·unfold merge;rw [if_pos e]
     ·rintro ⟨h1,h2⟩ k hk e
      unfold merge at e;split at e
      ·rename_i h;exact h2 ⟨k,hk,h⟩
      ·exact h1 ⟨k,hk,e⟩
    have h2:kA f n=true↔ ¬(∃a,a<n∧f a=y):=by
     rw [gJ,hy];exact ⟨fun h ⟨a,ha,e⟩=>h a ha e,fun h k hk e=>h ⟨k,hk,e⟩⟩
    simp only [hex];by_cases p1: ∃a,a<n∧f a=x<;>by_cases p2: ∃a,a<n∧f a=y<;>simp_all<;>omega
   ·have hm:merge f x y n=f n:=by unfold merge;rw [if_neg hy]
    have h1:kA (merge f x y) n=true↔kA f n=true:=by
     rw [gJ,gJ,hm];constructor
     ·intro h k hk e
      refine h k hk ?_;unfold merge;rw [if_neg (by rw [e];exact hy)];exact e
     ·intro h k hk e
      unfold merge at e;split at e
      ·exact hx e.symm
      ·exact h k hk e
    simp only [hex];by_cases p1: ∃a,a<n∧f a=x<;>by_cases p2: ∃a,a<n∧f a=y<;>by_cases p3:kA f n=true<;>simp_all<;>omega
def lg (n:Nat) (E:List (Nat×Nat)) (f:Nat→Nat):Prop:= ∀a b,a<n→b<n→(f a=f b↔jg E a b)
theorem lg.nil (n:Nat):lg n [] (fun b=>b):=by
 intro a b _ _;constructor
 ·rintro rfl;exact .refl _
 ·intro h;exact h.label (fun b=>b) (fun p hp=>absurd hp (by simp))
theorem jg.Bn {E:List (Nat×Nat)} {x y a b:Nat}:jg (E++ [(x,y)]) a b↔jg E a b∨(jg E a x∧jg E y b)∨(jg E a y∧jg E x b):=by
 constructor
 ·intro h
  induction h with
  |refl a=>exact Or.inl (.refl _)
  | @Du a b h=>
    rcases List.mem_append.1 h with h|h
    ·exact Or.inl (.Du h)
    ·simp only [List.mem_singleton,Prod.mk.injEq]at h
     obtain ⟨rfl,rfl⟩:=h;exact Or.inr (Or.inl ⟨.refl _,.refl _⟩)
  |symm _ ih=>
   rcases ih with h|⟨h1,h2⟩|⟨h1,h2⟩
   ·exact Or.inl h.symm
   ·exact Or.inr (Or.inr ⟨h2.symm,h1.symm⟩)
   ·exact Or.inr (Or.inl ⟨h2.symm,h1.symm⟩)
  |trans _ _ Sx Sy=>
   rcases Sx with h|⟨h1,h2⟩|⟨h1,h2⟩<;>rcases Sy with g|⟨g1,g2⟩|⟨g1,g2⟩
   ·exact Or.inl (h.trans g)
   ·exact Or.inr (Or.inl ⟨h.trans g1,g2⟩)
   ·exact Or.inr (Or.inr ⟨h.trans g1,g2⟩)
   ·exact Or.inr (Or.inl ⟨h1,h2.trans g⟩)
   ·exact Or.inr (Or.inl ⟨h1,g2⟩)
   ·exact Or.inl (h1.trans g2)
   ·exact Or.inr (Or.inr ⟨h1,h2.trans g⟩)
   ·exact Or.inl (h1.trans g2)
   ·exact Or.inr (Or.inr ⟨h1,g2⟩)
 ·have hm: ∀{a b},jg E a b→jg (E++ [(x,y)]) a b:=fun h=>h.mono (fun p hp=>List.mem_append_left _ hp)
  have he:jg (E++ [(x,y)]) x y:= .Du (by simp);rintro (h|⟨h1,h2⟩|⟨h1,h2⟩)
  ·exact hm h
  ·exact (hm h1).trans (he.trans (hm h2))
  ·exact (hm h1).trans (he.symm.trans (hm h2))
theorem lg.skip {n:Nat} {E:List (Nat×Nat)} {f:Nat→Nat} (h:lg n E f) {x y:Nat} (hx:x<n) (hy:y<n) (e:f x=f y):lg n (E++ [(x,y)]) f:=by
 intro a b ha hb;have hc:=(h x y hx hy).1 e;rw [jg.Bn,h a b ha hb];constructor
 ·exact Or.inl
 ·rintro (g|⟨g1,g2⟩|⟨g1,g2⟩)
  ·exact g
  ·exact g1.trans (hc.trans g2)
  ·exact g1.trans (hc.symm.trans g2)
theorem lg.join {n:Nat} {E:List (Nat×Nat)} {f:Nat→Nat} (h:lg n E f) {x y:Nat} (hx:x<n) (hy:y<n) (_e:f x≠f y):lg n (E++ [(x,y)]) (merge f (f x) (f y)):=by
 intro a b ha hb;rw [jg.Bn,←h a b ha hb,←h a x ha hx,←h y b hy hb,←h a y ha hy,←h x b hx hb];unfold merge;by_cases h1:f a=f y<;>by_cases h2:f b=f y<;>simp [h1,h2]<;>omega
theorem lg.Dv {n:Nat} {f:Nat→Nat} {x y:Nat} (hx:x<n) (hy:y<n) (e:f x≠f y):cls (merge f (f x) (f y)) n+1=cls f n:=by
 have:=Gx f (f x) (f y) e n;rw [if_pos ⟨⟨x,hx,rfl⟩,⟨y,hy,rfl⟩⟩]at this;exact this
structure kh (n:Nat) (E:List (Nat×Nat)) (f:Nat→Nat):Prop where
 le: ∀b,b<n→f b≤b
 conn: ∀b,b<n→jg E b (f b)
theorem kh.tells {n:Nat} {E:List (Nat×Nat)} {f:Nat→Nat} (h:kh n E f) (he: ∀p∈E,f p.1=f p.2):lg n E f:=by
 intro a b ha hb;constructor
 ·intro e
  have:=h.conn b hb;rw [←e]at this;exact (h.conn a ha).trans this.symm
 ·intro c;exact c.label f he
theorem kh.first {n:Nat} {E:List (Nat×Nat)} {f:Nat→Nat} (h:kh n E f) (he: ∀p∈E,f p.1=f p.2) (b:Nat) (hb:b<n):(f b==b)=kA f b:=by
 rw [Bool.eq_iff_iff,gJ];simp only [beq_iff_eq];constructor
 ·intro e k hk hf
  have:=h.le k (by omega);omega
 ·intro hf
  have h1:=h.le b hb;by_cases e:f b=b
  ·exact e
  ·have h3:f (f b)=f b:=(h.tells he (f b) b (by omega) hb).2 (h.conn b hb).symm
   exact absurd h3 (hf (f b) (by omega))
def jU (w:World) (B:Nat) (f:Nat→Nat) (n:Nat):Prop:=aQ w B 3 ((List.range n).map fun b=>i64 ((f b:Nat):Int))
def gT (f:Nat→Nat) (k v:Nat) (b:Nat):Nat:=if b=k then v else f b
theorem jU.cell {w:World} {B:Nat} {f:Nat→Nat} {n:Nat} (h:jU w B f n) (k:Nat) (hk:k<n):w.cell? ⟨B,k,none⟩=some (i64 ((f k:Nat):Int))∧w.frozen? ⟨B,k,none⟩=false:=
 ⟨by rw [aQ.cell h k];simp [hk],aQ.frozen h k⟩
theorem jU.ext {w w':World} {B:Nat} {f:Nat→Nat} {n:Nat} (h:jU w B f n) (e:Ext w w'):jU w' B f n:=aQ.ext h e
theorem jU.lt {w:World} {B:Nat} {f:Nat→Nat} {n:Nat} (h:jU w B f n):B<w.heap.size:=aQ.lt h
theorem jU.congr {w:World} {B:Nat} {f g:Nat→Nat} {n:Nat} (h:jU w B f n) (e: ∀b,b<n→f b=g b):jU w B g n:=by
 unfold jU at*
 have:((List.range n).map fun b=>i64 ((g b:Nat):Int))=(List.range n).map fun b=>i64 ((f b:Nat):Int):=by
  apply List.map_congr_left;intro b hb;rw [e b (List.mem_range.1 hb)]
 rw [this];exact h
theorem jU.set {w:World} {B:Nat} {f:Nat→Nat} {n:Nat} (h:jU w B f n) (k v:Nat):jU (w.setCell ⟨B,k,none⟩ (i64 (v:Int))) B (gT f k v) n:=by
 unfold jU at*;have h5:=aQ.set h k (i64 (v:Int))
 have:((List.range n).map fun b=>i64 ((f b:Nat):Int)).set k (i64 (v:Int))=(List.range n).map fun b=>i64 ((gT f k v b:Nat):Int):=by
  apply List.ext_getElem
  ·simp
  ·intro i h1 h2
   rw [List.getElem_set];simp only [List.getElem_map,List.getElem_range];unfold gT;by_cases hik:k=i
   ·subst hik;simp
   ·rw [if_neg hik,if_neg (fun e=>hik e.symm)]
 rw [this]at h5;exact h5
theorem jU.zero {w:World} {B:Nat} {n:Nat} (h:aQ w B 3 (List.replicate n (.int .i64 0))):jU w B (fun b=>if b<0 then b else 0) n:=by
 unfold jU
 have:((List.range n).map fun b=>i64 (((if b<0 then b else 0:Nat):Nat):Int))=List.replicate n (.int .i64 0):=by
  apply List.ext_getElem
  ·simp
  ·intro i h1 h2;simp
 rw [this];exact h
theorem jU.next {w:World} {B n k:Nat} (h:jU w B (fun b=>if b<k then b else 0) n):jU (w.setCell ⟨B,k,none⟩ (i64 (k:Int))) B (fun b=>if b<k+1 then b else 0) n:=
 (h.set k k).congr fun b _=>by
   unfold gT;by_cases e:b=k
   ·subst e;simp
   ·rw [if_neg e]
    show(if b<k then b else 0)=(if b<k+1 then b else 0);by_cases e2:b<k
    ·rw [if_pos e2,if_pos (by omega)]
    ·rw [if_neg e2,if_neg (by omega)]
theorem jU.full {w:World} {B n:Nat} (h:jU w B (fun b=>if b<n then b else 0) n):jU w B (fun b=>b) n:=h.congr fun b hb=>by simp [hb]
def sumTo (f:Nat→Nat):Nat→Nat
 |0=>0
 |n+1=>sumTo f n+f n
theorem qW (f:Nat→Nat) (k v:Nat): ∀n,n≤k→sumTo (gT f k v) n=sumTo f n
 |0,_=>rfl
 |n+1,h=>by
  have:gT f k v n=f n:=by unfold gT;rw [if_neg (by omega)]
  simp only [sumTo,qW f k v n (by omega),this]
theorem sumTo_upd (f:Nat→Nat) (k v:Nat): ∀n,k<n→sumTo (gT f k v) n+f k=sumTo f n+v
 |0,h=>absurd h (Nat.not_lt_zero _)
 |n+1,h=>by
  by_cases e:k=n
  ·subst e
   have:gT f k v k=v:=by unfold gT;rw [if_pos rfl]
   simp only [sumTo,qW f k v k (Nat.le_refl _),this];omega
  ·have ih:=sumTo_upd f k v n (by omega)
   have:gT f k v n=f n:=by unfold gT;rw [if_neg (fun h=>e h.symm)]
   simp only [sumTo,this];omega
def eJ (f:Nat→Nat) (p:Nat×Nat):Nat→Nat:=gT (gT f p.1 (min (f p.1) (f p.2))) p.2 (min (f p.1) (f p.2))
theorem Bo {n:Nat} {E:List (Nat×Nat)} {f:Nat→Nat} (h:kh n E f) {p:Nat×Nat} (hp:p∈E) (h1:p.1<n) (h2:p.2<n):kh n E (eJ f p):=by
 have l1:=h.le p.1 h1;have l2:=h.le p.2 h2;have e:jg E p.1 p.2:= .Du hp
 have cm:jg E p.1 (min (f p.1) (f p.2)):=by
  by_cases q:f p.1≤f p.2
  ·rw [Nat.min_eq_left q];exact h.conn p.1 h1
  ·rw [Nat.min_eq_right (by omega)];exact e.trans (h.conn p.2 h2)
 constructor
 ·intro b hb
  have:=h.le b hb;unfold eJ gT;by_cases q2:b=p.2
  ·rw [if_pos q2];omega
  ·rw [if_neg q2]
   by_cases q1:b=p.1
   ·rw [if_pos q1];omega
   ·rw [if_neg q1];exact this
 ·intro b hb
  unfold eJ gT;by_cases q2:b=p.2
  ·rw [if_pos q2,q2];exact e.symm.trans cm
  ·rw [if_neg q2]
   by_cases q1:b=p.1
   ·rw [if_pos q1,q1];exact cm
   ·rw [if_neg q1];exact h.conn b hb
theorem Gy {n:Nat} {f:Nat→Nat} {p:Nat×Nat} (h1:p.1<n) (h2:p.2<n):sumTo (eJ f p) n≤sumTo f n∧(f p.1≠f p.2→sumTo (eJ f p) n<sumTo f n):=by
 unfold eJ;obtain ⟨m,hm⟩: ∃m,m=min (f p.1) (f p.2):=⟨_,rfl⟩;rw [←hm];have a:=sumTo_upd f p.1 m n h1;have b:=sumTo_upd (gT f p.1 m) p.2 m n h2;have c:gT f p.1 m p.2=if p.2=p.1 then m else f p.2:=rfl
 rw [c]at b;by_cases q:p.2=p.1
 ·have e:f p.2=f p.1:=by rw [q]
  rw [if_pos q]at b;omega
 ·rw [if_neg q]at b
  omega
theorem vv {f:Nat→Nat} {p:Nat×Nat} (h:f p.1=f p.2) (b:Nat):eJ f p b=f b:=by
 unfold eJ gT;rw [h,Nat.min_self];by_cases q2:b=p.2
 ·rw [if_pos q2,q2]
 ·rw [if_neg q2]
  by_cases q1:b=p.1
  ·rw [if_pos q1,q1,h]
  ·rw [if_neg q1]
theorem kh.congr {n:Nat} {E:List (Nat×Nat)} {f g:Nat→Nat} (h:kh n E f) (e: ∀b,b<n→f b=g b):kh n E g:=
 ⟨fun b hb=>by rw [←e b hb];exact h.le b hb,fun b hb=>by rw [←e b hb];exact h.conn b hb⟩
theorem kh.start (n:Nat) (E:List (Nat×Nat)):kh n E (fun b=>b):=⟨fun _ _=>Nat.le_refl _,fun _ _=> .refl _⟩
structure tL (n:Nat) (E:List (Nat×Nat)) (f:Nat→Nat) (i:Nat) (g:Nat→Nat) (ag:Bool):Prop where
 least:kh n E g
 sum:sumTo g n≤sumTo f n
 yes:ag=true→sumTo g n<sumTo f n
 no:ag=false→ ∀p∈E.take i,g p.1=g p.2
theorem tL.start {n:Nat} {E:List (Nat×Nat)} {f:Nat→Nat} (h:kh n E f):tL n E f 0 f false:=⟨h,Nat.le_refl _,(fun e=>by cases e),(fun _ p hp=>by simp at hp)⟩
theorem tL.step {n:Nat} {E:List (Nat×Nat)} {f g:Nat→Nat} {i:Nat} {ag:Bool} (h:tL n E f i g ag) (hi:i<E.length) (h1:E[i].1<n) (h2:E[i].2<n):
 tL n E f (i+1) (eJ g E[i]) (ag||(g E[i].1 !=min (g E[i].1) (g E[i].2))||(g E[i].2 !=min (g E[i].1) (g E[i].2))):=by
 have hs:=Gy (f:=g) h1 h2;refine ⟨Bo h.least (List.getElem_mem hi) h1 h2,Nat.le_trans hs.1 h.sum,fun e=> ?_,fun e=> ?_⟩
 ·by_cases q:g E[i].1=g E[i].2
  ·rw [q]at e
   simp at e;exact Nat.lt_of_le_of_lt hs.1 (h.yes e)
  ·exact Nat.lt_of_lt_of_le (hs.2 q) h.sum
 ·simp at e
  obtain ⟨⟨e1,e2⟩,e3⟩:=e;have q:g E[i].1=g E[i].2:=by omega
  intro p hp;rw [vv q,vv q];rw [List.take_succ_eq_append_getElem hi,List.mem_append]at hp;rcases hp with hp|hp
  ·exact h.no e1 p hp
  ·rw [List.mem_singleton]at hp;rw [hp];exact q
end Go.Proofs.YtkpngkdgphojlaaGreat
