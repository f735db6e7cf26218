/- Texts of the proof. -/
import Derived.Test.YtkpngkdgphojlaaGreatCf1
set_option linter.all false
set_option maxRecDepth 100000
namespace Go.Proofs.YtkpngkdgphojlaaGreat
open Go.Proofs.Tryz
open Go.RowKit
open Go
def FZ (Z:Nat→Bool) (ls:Array Bool):Prop:= ∀j,Z j=true→ls.getD j false=false
def og (Z:Nat→Bool) (ls:Array Bool):Bool:=(List.range ls.size).any fun j=>Z j&&ls.getD j false
theorem EI {Z:Nat→Bool} {ls:Array Bool} {j:Nat} (h:FZ Z (ls.setIfInBounds j true)):FZ Z ls:=by
 intro k hk;have h1:=h k hk;by_cases hjk:j=k
 ·subst hjk
  by_cases hl:j<ls.size
  ·simp [Array.getD,hl]at h1
  ·simp [Array.getD,hl]
 ·rw [getD_set_ne false hjk]at h1;exact h1
theorem AO {Z:Nat→Bool} {ls:Array Bool} {j:Nat} (h:FZ Z ls) (hj:Z j=false):FZ Z (ls.setIfInBounds j true):=by
 intro k hk;by_cases hjk:j=k
 ·subst hjk;rw [hk]at hj;cases hj
 ·rw [getD_set_ne false hjk];exact h k hk
theorem EJ {Z:Nat→Bool} {ls:Array Bool} (h:og Z ls=true): ¬FZ Z ls:=by
 intro hn;obtain ⟨j,_,h2⟩:=List.any_eq_true.1 h;rw [Bool.and_eq_true]at h2;rw [hn j h2.1]at h2;exact absurd h2.2 (by decide)
section
variable{P:Program} {ops:Array Oper} {Q:Exit→Act→World→Prop} {md:Region.Mode} {S R:World→Prop} {Z:Nat→Bool}
def eu (P:Program) (md:Region.Mode) (ops:Array Oper) (Q:Exit→Act→World→Prop) (S R:World→Prop) (Z:Nat→Bool):Nat→Array Bool→Act→World→Prop
 |0,ls,a,w=>Region.ready md ops ls= []∧Q .normal a w
 |n+1,ls,a,w=>(Region.ready md ops ls= []→Q .normal a w)∧
  ∀i∈Region.ready md ops ls,wpOp P ops Q i (fun a' w'=>S w'∧(FZ Z (ls.setIfInBounds i true)→R w')∧eu P md ops Q S R Z n (ls.setIfInBounds i true) a' w') a w
theorem uZ: ∀(n:Nat) (ls:Array Bool) (a:Act) (w:World),eu P md ops Q S R Z n ls a w→wpAny P md ops Q n ls a w
 |0,_,_,_,h=>h
 |n+1,_,_,_,h=>⟨h.1,fun i hi=>wpOp_mono (fun a' w' h'=>uZ n _ a' w' h'.2.2) (h.2 i hi)⟩
theorem qC {T:World→Prop} {i:Nat} {oi:Oper} {v:Value} (hi:ops[i]?=some oi) (QU:Z i=false) (QW: ∀(j:Nat) (o:Oper) cs b,ops[j]?=some o→o.op≠ .select cs b)
 (hQ: ∀c a w,Q (.panic c) (a.put oi.dst v) w→Q (.panic c) a w)
 (hT:(∀w,S w→T w)∨((∀w,S w→R w→T w)∧ ∀j oj,ops[j]?=some oj→Z j=true→ ∃e∈oj.after,Region.binds md e=true∧e.on=i)):
 ∀(n:Nat) (ls:Array Bool) (a:Act) (w:World),
  (∀j oj,ops[j]?=some oj→j≠i→ls.getD j true=false→(∀e∈oj.after,Region.binds md e=true→e.on≠i)→oi.apart ops oj=true)→
  i∈Region.ready md ops ls→YieldsIf P ops T oi v a→S w→(FZ Z ls→R w)→((∀w,S w→T w)∨FZ Z ls)→
  eu P md ops Q S R Z n (ls.setIfInBounds i true) (a.put oi.dst v) w→eu P md ops Q S R Z (n+1) ls a w:=by
 have now: ∀(ls:Array Bool) (w:World),S w→(FZ Z ls→R w)→((∀w,S w→T w)∨FZ Z ls)→T w:=by
  intro ls w hS hR hn;rcases hn with h|h
  ·exact h w hS
  ·rcases hT with h'|h'
   ·exact h' w hS
   ·exact h'.1 w hS (hR h)
 intro n;induction n with
 |zero=>
  intro ls a w _ hr hy hS hR hn H;refine ⟨fun h=>(by rw [h]at hr;cases hr),fun j hj=> ?_⟩;by_cases Aq:j=i
  ·subst Aq;exact hy.wpOp hi (now ls w hS hR hn) ⟨hS,fun h=>hR (EI h),H⟩
  ·have:=ready_mono hj Aq
   rw [H.1]at this;cases this
 |succ n ih=>
  intro ls a w MM hr hy hS hR hn H;refine ⟨fun h=>(by rw [h]at hr;cases hr),fun j hj=> ?_⟩;by_cases Aq:j=i
  ·subst Aq;exact hy.wpOp hi (now ls w hS hR hn) ⟨hS,fun h=>hR (EI h),H⟩
  ·have h1:=H.2 j (ready_mono hj Aq)
   obtain ⟨QX,oj,UI,hall⟩:=mem_ready.1 hj
   have QY: ∀e∈oj.after,Region.binds md e=true→e.on≠i:=fun e he hb heq=>by
    have h1:=hall e he hb;have h0:=(mem_ready.1 hr).1;rw [heq]at h1;rcases Nat.lt_or_ge i ls.size with h'|h'
    ·simp [h']at h0 h1;rw [h0]at h1;cases h1
    ·simp [Array.getElem?_eq_none h']at h1
   have NW:(∀w,S w→T w)∨FZ Z (ls.setIfInBounds j true):=by
    rcases hT with h'|h'
    ·exact Or.inl h'
    ·rcases hn with Wb|Wb
     ·exact Or.inl Wb
     ·refine Or.inr (AO Wb ?_)
      cases hz:Z j with
      |false=>rfl
      |true=>
       obtain ⟨e,he,hb,heq⟩:=h'.2 j oj UI hz;exact absurd heq (QY e he hb)
   have h2:=wpOp_putIf UI (MM j oj UI Aq QX QY) (fun cs b=>QW i oi cs b hi) (fun cs b=>QW j oj cs b UI) hQ hy h1
   have NX: ∀k ok,ops[k]?=some ok→k≠i→(ls.setIfInBounds j true).getD k true=false→
    (∀e∈ok.after,Region.binds md e=true→e.on≠i)→oi.apart ops ok=true:=fun k ok hk UJ Wc hno=>by
    refine MM k ok hk UJ ?_ hno;by_cases hjk:j=k
    ·subst hjk;exact QX
    ·rw [getD_set_ne true hjk]at Wc;exact Wc
   have MN: ∀l:Array Bool,(l.setIfInBounds i true).setIfInBounds j true=(l.setIfInBounds j true).setIfInBounds i true:=fun l=>by rw [Array.setIfInBounds_comm _ _ Aq]
   refine wpOp_mono (fun a' w' h3=> ?_) h2;have h4:FZ Z (ls.setIfInBounds j true)→R w':=fun hz=>h3.2.2.1 (by rw [MN];exact AO hz QU);exact ⟨h3.2.1,h4,ih (ls.setIfInBounds j true) a' w' NX (ready_mono hr (Ne.symm Aq)) h3.1 h3.2.1 h4 NW (by rw [←MN];exact h3.2.2.2)⟩
theorem eV {i:Nat} {oi:Oper} {v:Value} {n:Nat} {ls:Array Bool} {a:Act} {w:World} (hi:ops[i]?=some oi)
 (hs:Region.noSelect ops=true) (hf:Region.free md ops ls i=true) (hr:(Region.ready md ops ls).contains i=true) (QU:Z i=false)
 (hQ: ∀c a w,Q (.panic c) (a.put oi.dst v) w→Q (.panic c) a w) (hy:YieldsIf P ops S oi v a) (hS:S w) (hR:R w∨og Z ls=true)
 (h:eu P md ops Q S R Z n (ls.setIfInBounds i true) (a.put oi.dst v) w):eu P md ops Q S R Z (n+1) ls a w:=
 qC (T:=S) hi QU (Region.noSelect_spec hs) hQ (Or.inl fun _ h=>h) n ls a w (Region.free_spec hi hf) (by simpa using hr) hy hS (fun hn=>hR.elim id (fun h=>absurd hn (EJ h))) (Or.inl fun _ h=>h) h
theorem mV {i:Nat} {oi:Oper} {v:Value} {n:Nat} {ls:Array Bool} {a:Act} {w:World} (hi:ops[i]?=some oi)
 (hs:Region.noSelect ops=true) (hf:Region.free md ops ls i=true) (hr:(Region.ready md ops ls).contains i=true) (QU:Z i=false) (hz:uY md ops Z i=true) (hl:og Z ls=false)
 (hQ: ∀c a w,Q (.panic c) (a.put oi.dst v) w→Q (.panic c) a w) (hy:YieldsIf P ops (fun w=>S w∧R w) oi v a) (hS:S w) (hR:R w)
 (h:eu P md ops Q S R Z n (ls.setIfInBounds i true) (a.put oi.dst v) w):eu P md ops Q S R Z (n+1) ls a w:=
 qC (T:=fun w=>S w∧R w) hi QU (Region.noSelect_spec hs) hQ (Or.inr ⟨fun _ h1 h2=>⟨h1,h2⟩,AJ hz⟩) n ls a w (Region.free_spec hi hf) (by simpa using hr) hy hS (fun _=>hR) (Or.inr fun j hj=>by
  by_cases yY:j<ls.size
  ·have h1:=List.any_eq_false.1 hl j (List.mem_range.2 yY)
   rw [hj,Bool.true_and]at h1;simpa using h1
  ·simp [Array.getD,yY]) h
def aH (P:Program) (md:Region.Mode) (ops:Array Oper) (Q:Exit→Act→World→Prop) (S R:World→Prop) (Z:Nat→Bool) (n:Nat) (ls:Array Bool) (a:Act) (w:World) (rs:List Nat):Prop:=
 ∀i∈rs,wpOp P ops Q i (fun a' w'=>S w'∧(FZ Z (ls.setIfInBounds i true)→R w')∧eu P md ops Q S R Z n (ls.setIfInBounds i true) a' w') a w
theorem aH.nil {n:Nat} {ls:Array Bool} {a:Act} {w:World}:aH P md ops Q S R Z n ls a w []:=fun _ h=>by cases h
theorem aH.cons {n:Nat} {ls:Array Bool} {a:Act} {w:World} {i:Nat} {o:Oper} {rs:List Nat} (ho:ops[i]?=some o)
 (h: ∀K':Act→World→Prop,Shut (∀a w,S w→R w→(S w→R w→eu P md ops Q S R Z n (ls.setIfInBounds i true) a w)→K' a w)→if Region.wanted o (yielded ops a.tmps)=true then Oper.wp P o a w K' Q else K' (a.put o.dst undef) w)
 (hs:aH P md ops Q S R Z n ls a w rs):aH P md ops Q S R Z n ls a w (i::rs):=fun j hj=>by
 rcases List.mem_cons.1 hj with rfl|hj
 ·exact wpOp_step ho (fun K' hK=>h K' (fun a w hS hR hW=>hK a w ⟨hS,fun _=>hR,hW hS hR⟩))
 ·exact hs j hj
theorem aH.late {n:Nat} {ls:Array Bool} {a:Act} {w:World} {i:Nat} {o:Oper} {rs:List Nat} (ho:ops[i]?=some o) (hz:og Z (ls.setIfInBounds i true)=true)
 (h: ∀K':Act→World→Prop,Shut (∀a w,S w→(S w→eu P md ops Q S R Z n (ls.setIfInBounds i true) a w)→K' a w)→if Region.wanted o (yielded ops a.tmps)=true then Oper.wp P o a w K' Q else K' (a.put o.dst undef) w)
 (hs:aH P md ops Q S R Z n ls a w rs):aH P md ops Q S R Z n ls a w (i::rs):=fun j hj=>by
 rcases List.mem_cons.1 hj with rfl|hj
 ·exact wpOp_step ho (fun K' hK=>h K' (fun a w hS hW=>hK a w ⟨hS,fun e=>absurd e (EJ hz),hW hS⟩))
 ·exact hs j hj
theorem bE {rs:List Nat} {n:Nat} {ls:Array Bool} {a:Act} {w:World} (hr:Region.ready md ops ls=rs) (hne:rs≠ [])
 (h:aH P md ops Q S R Z n ls a w rs):eu P md ops Q S R Z (n+1) ls a w:=⟨fun h0=>absurd (hr▸h0) hne,hr▸h⟩
theorem aD {ls:Array Bool} {a:Act} {w:World} (hr:Region.ready md ops ls= []) (h:Q .normal a w): ∀n,eu P md ops Q S R Z n ls a w
 |0=>⟨hr,h⟩
 |_+1=>⟨fun _=>h,by rw [hr];simp⟩
theorem aL {id:Nat} {a:Act} {w:World} (S R:World→Prop) (Z:Nat→Bool) (hm:P.follows .mixedOrders=true) (hS:S w.drew) (hR:R w.drew)
 (h:S w.drew→R w.drew→eu P .any ops Q S R Z ops.size (Array.replicate ops.size false) a w.drew):(Code.region id ops true).wp P Q a w:=
 wp_region_any hm (uZ _ _ _ _ (h hS hR))
end
theorem jw {α:Type} (l:List α) (i:Nat) (h:i<l.length):l.toArray[i]'h=l[i]'h:=rfl
theorem jx {α:Type} (a:α) (l:List α) (i:Nat) (h:i+1<(a::l).length):(a::l)[i+1]=l[i]'(Nat.lt_of_succ_lt_succ h):=rfl
theorem jy {α:Type} (a:α) (l:List α) (h:0<(a::l).length):(a::l)[0]=a:=rfl
theorem jz {α:Type} (x:α) (l:List α) (a:α):(x::l).set 0 a=a::l:=rfl
theorem jA {α:Type} (x:α) (l:List α) (i:Nat) (a:α):(x::l).set (i+1) a=x::l.set i a:=rfl
section
variable{P:Program} {ops:Array Oper} {Q:Exit→Act→World→Prop} {md:Region.Mode} {S R:World→Prop} {Z:Nat→Bool} {n:Nat} {ls oX:Array Bool} {a a':Act} {w:World}
theorem aF (i:Nat) {v:Value} {o:Oper} (hS:S w) (hR:R w) (h:eu P md ops Q S R Z n oX a' w) (hi:ops[i]?=some o:=by rfl) (hy: ∀w,S w→(execOp a.eval o).run P w= .ok (.value v) w:=by intro w e;go_simp;try rfl)
 (hl:ls.setIfInBounds i true=oX:=by first|(simp only [jw,jx,jy,List.setIfInBounds_toArray,jz,jA,List.size_toArray,List.length_cons,List.length_nil,Nat.reduceAdd,Array.replicate_succ,Array.replicate_zero,List.push_toArray,List.append_toArray,List.nil_append,List.cons_append];rfl)|rfl) (ha:a.put o.dst v=a':=by first|(simp only [jw,jx,jy,List.setIfInBounds_toArray,jz,jA,Act.put];rfl)|rfl) (h1:Region.noSelect ops=true:=by kernel_rfl) (h2:Region.free md ops ls i=true:=by kernel_rfl)
 (h3:(Region.ready md ops ls).contains i=true:=by kernel_rfl) (h4:Z i=false:=by kernel_rfl) (h5: ∀c a w,Q (.panic c) (a.put o.dst v) w→Q (.panic c) a w:=by exact fun _ _ _ h=>h)
 (h6:Region.wanted o (yielded ops a.tmps)=true:=by rfl):eu P md ops Q S R Z (n+1) ls a w:=by
 subst hl ha;exact eV hi h1 h2 h3 h4 h5 (Or.inl ⟨h6,hy⟩) hS (Or.inl hR) h
theorem AP (i:Nat) {o:Oper} (hS:S w) (hR:R w) (h:eu P md ops Q S R Z n oX a' w) (hi:ops[i]?=some o:=by rfl)
 (hl:ls.setIfInBounds i true=oX:=by first|(simp only [jw,jx,jy,List.setIfInBounds_toArray,jz,jA,List.size_toArray,List.length_cons,List.length_nil,Nat.reduceAdd,Array.replicate_succ,Array.replicate_zero,List.push_toArray,List.append_toArray,List.nil_append,List.cons_append];rfl)|rfl) (ha:a.put o.dst undef=a':=by first|(simp only [jw,jx,jy,List.setIfInBounds_toArray,jz,jA,Act.put];rfl)|rfl) (h1:Region.noSelect ops=true:=by kernel_rfl) (h2:Region.free md ops ls i=true:=by kernel_rfl)
 (h3:(Region.ready md ops ls).contains i=true:=by kernel_rfl) (h4:Z i=false:=by kernel_rfl) (h5: ∀c a w,Q (.panic c) (a.put o.dst undef) w→Q (.panic c) a w:=by exact fun _ _ _ h=>h)
 (h6:Region.wanted o (yielded ops a.tmps)=false:=by rfl):eu P md ops Q S R Z (n+1) ls a w:=by
 subst hl ha;exact eV hi h1 h2 h3 h4 h5 (Or.inr ⟨h6,rfl⟩) hS (Or.inl hR) h
theorem Hw (i:Nat) {v:Value} {o:Oper} (hS:S w) (hR:R w) (h:eu P md ops Q S R Z n oX a' w) (hi:ops[i]?=some o:=by rfl) (hy: ∀w,S w∧R w→(execOp a.eval o).run P w= .ok (.value v) w:=by intro w e;go_simp;try rfl)
 (hl:ls.setIfInBounds i true=oX:=by first|(simp only [jw,jx,jy,List.setIfInBounds_toArray,jz,jA,List.size_toArray,List.length_cons,List.length_nil,Nat.reduceAdd,Array.replicate_succ,Array.replicate_zero,List.push_toArray,List.append_toArray,List.nil_append,List.cons_append];rfl)|rfl) (ha:a.put o.dst v=a':=by first|(simp only [jw,jx,jy,List.setIfInBounds_toArray,jz,jA,Act.put];rfl)|rfl) (h1:Region.noSelect ops=true:=by kernel_rfl) (h2:Region.free md ops ls i=true:=by kernel_rfl)
 (h3:(Region.ready md ops ls).contains i=true:=by kernel_rfl) (h4:Z i=false:=by kernel_rfl) (h7:uY md ops Z i=true:=by kernel_rfl) (h8:og Z ls=false:=by kernel_rfl) (h5: ∀c a w,Q (.panic c) (a.put o.dst v) w→Q (.panic c) a w:=by exact fun _ _ _ h=>h)
 (h6:Region.wanted o (yielded ops a.tmps)=true:=by rfl):eu P md ops Q S R Z (n+1) ls a w:=by
 subst hl ha;exact mV hi h1 h2 h3 h4 h7 h8 h5 (Or.inl ⟨h6,hy⟩) hS hR h
theorem wTl (i:Nat) {v:Value} {o:Oper} (hS:S w) (h:eu P md ops Q S R Z n oX a' w) (hi:ops[i]?=some o:=by rfl) (hy: ∀w,S w→(execOp a.eval o).run P w= .ok (.value v) w:=by intro w e;go_simp;try rfl)
 (hl:ls.setIfInBounds i true=oX:=by first|(simp only [jw,jx,jy,List.setIfInBounds_toArray,jz,jA,List.size_toArray,List.length_cons,List.length_nil,Nat.reduceAdd,Array.replicate_succ,Array.replicate_zero,List.push_toArray,List.append_toArray,List.nil_append,List.cons_append];rfl)|rfl) (ha:a.put o.dst v=a':=by first|(simp only [jw,jx,jy,List.setIfInBounds_toArray,jz,jA,Act.put];rfl)|rfl) (h1:Region.noSelect ops=true:=by kernel_rfl) (h2:Region.free md ops ls i=true:=by kernel_rfl)
 (h3:(Region.ready md ops ls).contains i=true:=by kernel_rfl) (h4:Z i=false:=by kernel_rfl) (h8:og Z ls=true:=by kernel_rfl) (h5: ∀c a w,Q (.panic c) (a.put o.dst v) w→Q (.panic c) a w:=by exact fun _ _ _ h=>h)
 (h6:Region.wanted o (yielded ops a.tmps)=true:=by rfl):eu P md ops Q S R Z (n+1) ls a w:=by
 subst hl ha;exact eV hi h1 h2 h3 h4 h5 (Or.inl ⟨h6,hy⟩) hS (Or.inr h8) h
theorem fp (i:Nat) {o:Oper} (ho:ops[i]?=some o)
 (h: ∀K':Act→World→Prop,Shut (∀a w,S w→R w→(S w→R w→eu P md ops Q S R Z n (ls.setIfInBounds i true) a w)→K' a w)→if Region.wanted o (yielded ops a.tmps)=true then Oper.wp P o a w K' Q else K' (a.put o.dst undef) w)
 (hr:Region.ready md ops ls= [i]:=by kernel_rfl):eu P md ops Q S R Z (n+1) ls a w:=bE hr (by simp) (aH.cons ho h aH.nil)
end
theorem sS:(∀(α:Type) (l:List α) (i:Nat) (h:i<l.length),l.toArray[i]'h=l[i]'h)∧(∀(α:Type) (a:α) (l:List α) (i:Nat) (h:i+1<(a::l).length),(a::l)[i+1]=l[i]'(Nat.lt_of_succ_lt_succ h))∧(∀(α:Type) (a:α) (l:List α) (h:0<(a::l).length),(a::l)[0]=a)∧
 (∀(α:Type) (l:List α) (i:Nat) (a:α),l.toArray.setIfInBounds i a=(l.set i a).toArray)∧(∀(α:Type) (x:α) (l:List α) (a:α),(x::l).set 0 a=a::l)∧(∀(α:Type) (x:α) (l:List α) (i:Nat) (a:α),(x::l).set (i+1) a=x::l.set i a)∧(∀(a:Act) (i:Nat) (v:Value),a.put i v={a with tmps:=a.tmps.setIfInBounds i v}):=
 ⟨fun _ _ _ _=>rfl,fun _ _ _ _ _=>rfl,fun _ _ _ _=>rfl,fun _ _ _ _=>List.setIfInBounds_toArray .., fun _ _ _ _=>rfl,fun _ _ _ _ _=>rfl,fun _ _ _=>rfl⟩
abbrev i64 (x:Int):Value:= .int .i64 x
structure bH (w:World) (m:Nat) (a:Option Addr) (c:Nat) (rows:List (List Value)):Prop where
 le:rows.length≤c
 cap:c≤9223372036854775807
 cell: ∀i (h:i<rows.length),∃b o,a=some ⟨b,o,none⟩∧ ∀j (hj:j<(rows[i]).length),w.cell? ⟨b,o+i*m+j,none⟩=some (rows[i])[j]
theorem bH.keeps {w w':World} {m:Nat} {a:Option Addr} {c:Nat} {rows:List (List Value)} (h:bH w m a c rows) (e:jl w w'):bH w' m a c rows:=
 ⟨h.le,h.cap,fun i hi=>by obtain ⟨b,o,ha,hc⟩:=h.cell i hi;exact ⟨b,o,ha,fun j hj=>e _ _ (hc j hj)⟩⟩
theorem bH.ext {w w':World} {m:Nat} {a:Option Addr} {c:Nat} {rows:List (List Value)} (h:bH w m a c rows) (e:Ext w w'):bH w' m a c rows:=h.keeps e.keeps
structure cN where
 name:ByteArray
 da:Option Addr
 dc:Nat
 cf:List Int
 lF:Int
def cN.cells (b:cN):List Value:= [.string b.name,.slice b.da b.cf.length b.dc,i64 b.lF]
structure aS where
 name:ByteArray
 cR:Int
 kq:Int
 rn:Int
 rd:Int
 qD:Int
 uf:Int
 sk:Int
 wI:Int
 cY:Int
 jH:Int
 aa:Option Addr
 ac:Nat
 away:List Int
def aS.cells (l:aS):List Value:= [.string l.name,i64 l.cR,i64 l.kq,i64 l.rn,i64 l.rd,i64 l.qD,i64 l.uf,i64 l.sk,i64 l.wI,i64 l.cY,i64 l.jH,.slice l.aa l.away.length l.ac]
structure dH where
 width:Int
 aV:Int
def dH.cells (s:dH):List Value:= [i64 s.width,i64 s.aV]
structure aK where
 name:ByteArray
 cS:Int
 min:Int
 max:Int
 sa:Option Addr
 sc:Nat
 aU:List dH
 fu:Int
 fw:Int
 dv:Int
 cL:Int
 dx:Int
 fz:Int
 dy:Int
 startTime:Int
 dS:Int
 dz:Int
 dA:Int
 aA:Int
 bK:Int
 aa:Option Addr
 ac:Nat
 away:List Int
 state:Int
 hours:Int
 output:Int
def aK.cells (u:aK):List Value:= [.string u.name,i64 u.cS,i64 u.min,i64 u.max,.slice u.sa u.aU.length u.sc,i64 u.fu,i64 u.fw,i64 u.dv,i64 u.cL,i64 u.dx,i64 u.fz,i64 u.dy,i64 u.startTime,i64 u.dS,i64 u.dz,i64 u.dA,i64 u.aA,i64 u.bK,.slice u.aa u.away.length u.ac,i64 u.state,i64 u.hours,i64 u.output]
structure bG where
 name:ByteArray
 cS:Int
 capacity:Int
 initial:Int
 final:Int
 fS:Int
 discharge:Int
 en:Int
 ed:Int
def bG.cells (s:bG):List Value:= [.string s.name,i64 s.cS,i64 s.capacity,i64 s.initial,i64 s.final,i64 s.fS,i64 s.discharge,i64 s.en,i64 s.ed]
structure dX where
 name:ByteArray
 cS:Int
 ia:Option Addr
 ic:Nat
 imp:List Int
 ea:Option Addr
 ec:Nat
 exp:List Int
 pa:Option Addr
 pc:Nat
 aV:List Int
def dX.cells (t:dX):List Value:= [.string t.name,i64 t.cS,.slice t.ia t.imp.length t.ic,.slice t.ea t.exp.length t.ec,.slice t.pa t.aV.length t.pc]
structure bL where
 unit:Int
 up:Int
 down:Int
def bL.cells (m:bL):List Value:= [i64 m.unit,i64 m.up,i64 m.down]
structure aY where
 name:ByteArray
 la:Option Addr
 lc:Nat
 lines:List Int
 bI:Bool
 ma:Option Addr
 mc:Nat
 moves:List bL
def aY.cells (o:aY):List Value:= [.string o.name,.slice o.la o.lines.length o.lc,.bool o.bI,.slice o.ma o.moves.length o.mc]
structure ai where
 hours:Int
 ra:Option Addr
 rc:Nat
 aA:List Int
 ba:Option Addr
 bc:Nat
 aj:List cN
 la:Option Addr
 lc:Nat
 lines:List aS
 ua:Option Addr
 uc:Nat
 aq:List aK
 sa:Option Addr
 sc:Nat
 stores:List bG
 ta:Option Addr
 tc:Nat
 aB:List dX
 oa:Option Addr
 oc:Nat
 outs:List aY
def ai.cells (c:ai):List Value:= [i64 c.hours,.slice c.ra c.aA.length c.rc,.slice c.ba c.aj.length c.bc,.slice c.la c.lines.length c.lc,.slice c.ua c.aq.length c.uc,.slice c.sa c.stores.length c.sc,.slice c.ta c.aB.length c.tc,.slice c.oa c.outs.length c.oc]
abbrev C8 (c:ai):Array Value:= #[i64 c.hours,.slice c.ra c.aA.length c.rc,.slice c.ba c.aj.length c.bc,.slice c.la c.lines.length c.lc,.slice c.ua c.aq.length c.uc,.slice c.sa c.stores.length c.sc,.slice c.ta c.aB.length c.tc,.slice c.oa c.outs.length c.oc]
def eI (l:List Int):Prop:= ∀x∈l,bB x
structure a_ (w:World) (c:ai):Prop where
 hours:bB c.hours
 aA:aI w c.ra c.rc c.aA
 aj:bH w 3 c.ba c.bc (c.aj.map cN.cells)
 cS: ∀b∈c.aj,b.name.size≤maxLen∧aI w b.da b.dc b.cf∧bB b.lF
 lines:bH w 12 c.la c.lc (c.lines.map aS.cells)
 line: ∀l∈c.lines,l.name.size≤maxLen∧aI w l.aa l.ac l.away∧eI [l.cR,l.kq,l.rn,l.rd,l.qD,l.uf,l.sk,l.wI,l.cY,l.jH]
 aq:bH w 22 c.ua c.uc (c.aq.map aK.cells)
 unit: ∀u∈c.aq,u.name.size≤maxLen∧aI w u.aa u.ac u.away∧bH w 2 u.sa u.sc (u.aU.map dH.cells)∧(∀s∈u.aU,eI [s.width,s.aV])∧eI [u.cS,u.min,u.max,u.fu,u.fw,u.dv,u.cL,u.dx,u.fz,u.dy,u.startTime,u.dS,u.dz,u.dA,u.aA,u.bK,u.state,u.hours,u.output]
 stores:bH w 9 c.sa c.sc (c.stores.map bG.cells)
 store: ∀s∈c.stores,s.name.size≤maxLen∧eI [s.cS,s.capacity,s.initial,s.final,s.fS,s.discharge,s.en,s.ed]
 aB:bH w 5 c.ta c.tc (c.aB.map dX.cells)
 tie: ∀t∈c.aB,t.name.size≤maxLen∧aI w t.ia t.ic t.imp∧aI w t.ea t.ec t.exp∧aI w t.pa t.pc t.aV∧bB t.cS
 outs:bH w 4 c.oa c.oc (c.outs.map aY.cells)
 o: ∀o∈c.outs,o.name.size≤maxLen∧aI w o.la o.lc o.lines∧bH w 3 o.ma o.mc (o.moves.map bL.cells)∧ ∀m∈o.moves,eI [m.unit,m.up,m.down]
theorem a_.ext {w w':World} {c:ai} (h:a_ w c) (e:Ext w w'):a_ w' c:=
 ⟨h.hours,h.aA.ext e,h.aj.ext e,fun b hb=>⟨(h.cS b hb).1,(h.cS b hb).2.1.ext e,(h.cS b hb).2.2⟩,h.lines.ext e,fun l hl=>⟨(h.line l hl).1,(h.line l hl).2.1.ext e,(h.line l hl).2.2⟩,
   h.aq.ext e,fun u hu=>⟨(h.unit u hu).1,(h.unit u hu).2.1.ext e,(h.unit u hu).2.2.1.ext e,(h.unit u hu).2.2.2⟩,h.stores.ext e,h.store,h.aB.ext e,
   fun t ht=>⟨(h.tie t ht).1,(h.tie t ht).2.1.ext e,(h.tie t ht).2.2.1.ext e,(h.tie t ht).2.2.2.1.ext e,(h.tie t ht).2.2.2.2⟩,h.outs.ext e,fun o ho=>⟨(h.o o ho).1,(h.o o ho).2.1.ext e,(h.o o ho).2.2.1.ext e,(h.o o ho).2.2.2⟩⟩
structure St where
 kind:Int
 idx:Int
 field:Int
 err:Int
def St.cells (s:St):List Value:= [i64 s.kind,i64 s.idx,i64 s.field,i64 s.err]
def St.at (s:St) (kind idx:Int):St:=if s.err=0 then⟨kind,idx,0,0⟩else s
def St.need (s:St) (ok:Bool) (field e:Int):St:=if s.err=0∧ok=false then⟨s.kind,s.idx,field,e⟩else s
def St.within (s:St) (field n least most:Int):St:=s.need (decide (least≤n)&&decide (n≤most)) field 3
def St.cS (s:St) (c:ai) (field i:Int):St:=s.need (decide (0≤i)&&decide (i<c.aj.length)) field 12
def St.each (s:St) (l:List Int) (field least most:Int):St:=l.foldl (fun s n=>s.within field n least most) s
def St.mW (s:St) (c:ai) (field:Int) (l:List Int) (least most:Int):St:=(s.need (decide ((l.length:Int)=c.hours)) field 4).each l field least most
theorem St.ik (s:St) (ok:Bool) (f e:Int) (h:s.err≠0):s.need ok f e=s:=by unfold St.need;rw [if_neg (fun h'=>h h'.1)]
theorem St.CV (s:St) (f n a b:Int) (h:s.err≠0):s.within f n a b=s:=St.ik s _ _ _ h
theorem St.Ih (s:St) (l:List Int) (f a b:Int) (h:s.err≠0):s.each l f a b=s:=by
 unfold St.each;induction l with
 |nil=>rfl
 |cons x l ih=>rw [List.foldl_cons,St.CV s f x a b h,ih]
def y_ (c:ai) (s:St):List Value:=c.cells++s.cells
abbrev iN (w:World) (K:Nat) (c:ai) (s:St):Prop:=aQ w K 143 (y_ c s)
def mq (V:World) (K:Nat) (c:ai) (s:St) (e:Ending) (w':World):Prop:=e= .returned (.tuple #[])∧iN w' K c s∧ar K V w'
theorem ar.set {b:Nat} {w w':World} (h:ar b w w') {p:Addr} (hp:p.block=b) (v:Value):ar b w (w'.setCell p v):=
 ⟨h.os,h.tape,h.output,h.drawn,by simpa [World.setCell]using h.size,fun k hk hb=>by rw [Below.heap_setCell _ _ _ _ (by omega)];exact h.block k hk hb⟩
theorem ar.eL {b o:Nat} {w w':World} {v:Value} (h:ar b w w'):ar b w (w'.setCell ⟨b,o,none⟩ v):=h.set rfl v
theorem oh {V:World} {K:Nat} {c:ai} {s:St} (h:iN V K c s):V.cell? ⟨K,8,none⟩=some (i64 s.kind)∧V.cell? ⟨K,9,none⟩=some (i64 s.idx)∧V.cell? ⟨K,10,none⟩=some (i64 s.field)∧V.cell? ⟨K,11,none⟩=some (i64 s.err)∧V.frozen? ⟨K,8,none⟩=false∧V.frozen? ⟨K,9,none⟩=false∧V.frozen? ⟨K,10,none⟩=false∧V.frozen? ⟨K,11,none⟩=false:=
 ⟨(h.cell 8).trans rfl,(h.cell 9).trans rfl,(h.cell 10).trans rfl,(h.cell 11).trans rfl,h.frozen 8,h.frozen 9,h.frozen 10,h.frozen 11⟩
theorem eC {V:World} {K:Nat} {c:ai} {s:St} (h:iN V K c s):V.cell? ⟨K,0,none⟩=some (i64 c.hours)∧V.cell? ⟨K,1,none⟩=some (.slice c.ra c.aA.length c.rc)∧V.cell? ⟨K,2,none⟩=some (.slice c.ba c.aj.length c.bc)∧V.cell? ⟨K,3,none⟩=some (.slice c.la c.lines.length c.lc)∧V.cell? ⟨K,4,none⟩=some (.slice c.ua c.aq.length c.uc)∧V.cell? ⟨K,5,none⟩=some (.slice c.sa c.stores.length c.sc)∧V.cell? ⟨K,6,none⟩=some (.slice c.ta c.aB.length c.tc)∧V.cell? ⟨K,7,none⟩=some (.slice c.oa c.outs.length c.oc):=
 ⟨(h.cell 0).trans rfl,(h.cell 1).trans rfl,(h.cell 2).trans rfl,(h.cell 3).trans rfl,(h.cell 4).trans rfl,(h.cell 5).trans rfl,(h.cell 6).trans rfl,(h.cell 7).trans rfl⟩
theorem eT (V:World) (K:Nat) (c:ai) (s:St) (ok:Bool) (field e:Int) (h:iN V K c s):
 Calls prog 134 #[.pointer (some ⟨K,0,none⟩),.bool ok,i64 field,i64 e] V fun e' w'=>mq V K c (s.need ok field e) e' w':=by
 obtain ⟨-,-,c10,c11,-,-,f10,f11⟩:=oh h;have HK:=ae h;clear h;by_cases h0:s.err=0
 ·have t1:(s.err==0)=true:=by simpa using h0
  cases ok with
  |true=>
   go_enter func134,ntmps134
   go_wp2_with fail
   refine bodyPost_end (v:= .tuple #[]) (by simp [results,results134,go_sem]) rfl ⟨rfl,?_,ar.refl _ _⟩;unfold St.need;simp;exact HK.o
  |false=>
   have HW:Hid (iN ((V.setCell ⟨K,10,none⟩ (i64 field)).setCell ⟨K,11,none⟩ (i64 e)) K c (s.need false field e)):=by
    show iN _ _ _ _;unfold St.need;rw [if_pos ⟨h0,rfl⟩];exact (HK.o.set 10 _).set 11 _
   go_enter func134,ntmps134
   go_wp2_with fail
   exact bodyPost_end (v:= .tuple #[]) (by simp [results,results134,go_sem]) rfl ⟨rfl,HW.o,(ar.refl _ _).eL.eL⟩
 ·have t1:(s.err==0)=false:=by simpa using h0
  have HN:=ae (St.ik s ok field e h0);clear h0;go_enter func134,ntmps134
  go_wp2_with fail
  exact bodyPost_end (v:= .tuple #[]) (by simp [results,results134,go_sem]) rfl ⟨rfl,by rw [HN.o];exact HK.o,ar.refl _ _⟩
theorem AQ (V:World) (K:Nat) (c:ai) (s:St) (kind idx:Int) (h:iN V K c s):
 Calls prog 131 #[.pointer (some ⟨K,0,none⟩),i64 kind,i64 idx] V fun e' w'=>mq V K c (s.at kind idx) e' w':=by
 have c8:=oh h;have HK:=ae h;clear h;by_cases h0:s.err=0
 ·have t1:(s.err==0)=true:=by simpa using h0
  have HW:Hid (iN (((V.setCell ⟨K,8,none⟩ (i64 kind)).setCell ⟨K,9,none⟩ (i64 idx)).setCell ⟨K,10,none⟩ (i64 0)) K c (s.at kind idx)):=by
   show iN _ _ _ _;unfold St.at;rw [if_pos h0];have h5:=((HK.o.set 8 (i64 kind)).set 9 (i64 idx)).set 10 (i64 0);have e:((((y_ c s).set 8 (i64 kind)).set 9 (i64 idx)).set 10 (i64 0))=y_ c ⟨kind,idx,0,s.err⟩:=rfl;rw [e,h0]at h5;exact h5
  go_enter func131,ntmps131
  go_wp2_with fail
  exact bodyPost_end (v:= .tuple #[]) (by simp [results,results131,go_sem]) rfl ⟨rfl,HW.o,(ar.refl _ _).eL.eL.eL⟩
 ·have t1:(s.err==0)=false:=by simpa using h0
  have HN:Hid (s.at kind idx=s):=by show s.at kind idx=s;unfold St.at;rw [if_neg h0]
  clear h0;go_enter func131,ntmps131
  go_wp2_with fail
  exact bodyPost_end (v:= .tuple #[]) (by simp [results,results131,go_sem]) rfl ⟨rfl,by rw [HN.o];exact HK.o,ar.refl _ _⟩
theorem iO (V:World) (K:Nat) (c:ai) (s:St) (field n least most:Int) (h:iN V K c s):
 Calls prog 132 #[.pointer (some ⟨K,0,none⟩),i64 field,i64 n,i64 least,i64 most] V fun e' w'=>mq V K c (s.within field n least most) e' w':=by
 have HC:=ae (fun ok=>eT V K c s ok field 3 h);unfold St.within;clear h;cases d1:decide (least≤n)with
 |false=>
  simp only [Bool.false_and];go_enter func132,ntmps132
  go_wp2_with fail
  refine (HC.o _).mono ?_;rintro e w' ⟨rfl,h1,h2⟩;go_wp2_with fail
  exact bodyPost_end (v:= .tuple #[]) (by simp [results,results132,go_sem]) rfl ⟨rfl,h1,h2⟩
 |true=>
  simp only [Bool.true_and];go_enter func132,ntmps132
  go_wp2_with fail
  refine (HC.o _).mono ?_;rintro e w' ⟨rfl,h1,h2⟩;go_wp2_with fail
  exact bodyPost_end (v:= .tuple #[]) (by simp [results,results132,go_sem]) rfl ⟨rfl,h1,h2⟩
theorem EK (V:World) (K:Nat) (c:ai) (s:St) (field i:Int) (h:iN V K c s):
 Calls prog 138 #[.pointer (some ⟨K,0,none⟩),i64 field,i64 i] V fun e' w'=>mq V K c (s.cS c field i) e' w':=by
 have HC:=ae (fun ok=>eT V K c s ok field 12 h);obtain ⟨-,-,c2,-⟩:=eC h;unfold St.cS;clear h;cases d1:decide (0≤i)with
 |false=>
  simp only [Bool.false_and];go_enter func138,ntmps138
  go_wp2_with fail
  refine (HC.o _).mono ?_;rintro e w' ⟨rfl,h1,h2⟩;go_wp2_with fail
  exact bodyPost_end (v:= .tuple #[]) (by simp [results,results138,go_sem]) rfl ⟨rfl,h1,h2⟩
 |true=>
  simp only [Bool.true_and];go_enter func138,ntmps138
  go_wp2_with fail
  refine (HC.o _).mono ?_;rintro e w' ⟨rfl,h1,h2⟩;go_wp2_with fail
  exact bodyPost_end (v:= .tuple #[]) (by simp [results,results138,go_sem]) rfl ⟨rfl,h1,h2⟩
def St.found (s:St) (ok:Bool) (kind idx field e:Int):St:=if s.err=0∧ok=false then⟨kind,idx,field,e⟩else s
theorem St.F0 (s:St) (ok:Bool) (k i f e:Int) (h:s.err≠0):s.found ok k i f e=s:=by unfold St.found;rw [if_neg (fun h'=>h h'.1)]
abbrev MO (w:World) (K:Nat) (s:St):Prop:=aQ w K 101 s.cells
def Wd (V:World) (K:Nat) (s:St) (e:Ending) (w':World):Prop:=e= .returned (.tuple #[])∧MO w' K s∧ar K V w'
theorem EL {V:World} {K:Nat} {s:St} (h:MO V K s):V.cell? ⟨K,0,none⟩=some (i64 s.kind)∧V.cell? ⟨K,1,none⟩=some (i64 s.idx)∧V.cell? ⟨K,2,none⟩=some (i64 s.field)∧V.cell? ⟨K,3,none⟩=some (i64 s.err)∧V.frozen? ⟨K,0,none⟩=false∧V.frozen? ⟨K,1,none⟩=false∧V.frozen? ⟨K,2,none⟩=false∧V.frozen? ⟨K,3,none⟩=false:=
 ⟨(h.cell 0).trans rfl,(h.cell 1).trans rfl,(h.cell 2).trans rfl,(h.cell 3).trans rfl,h.frozen 0,h.frozen 1,h.frozen 2,h.frozen 3⟩
theorem NY (V:World) (K:Nat) (s:St) (ok:Bool) (kind idx field e:Int) (h:MO V K s):
 Calls prog 55 #[.pointer (some ⟨K,0,none⟩),.bool ok,i64 kind,i64 idx,i64 field,i64 e] V fun e' w'=>Wd V K (s.found ok kind idx field e) e' w':=by
 obtain ⟨c0,c1,c2,c3,f0,f1,f2,f3⟩:=EL h;have HK:=ae h;clear h;by_cases h0:s.err=0
 ·have t1:(s.err==0)=true:=by simpa using h0
  cases ok with
  |true=>
   go_enter func55,ntmps55
   go_wp2_with fail
   refine bodyPost_end (v:= .tuple #[]) (by simp [results,results55,go_sem]) rfl ⟨rfl,?_,ar.refl _ _⟩;unfold St.found;simp;exact HK.o
  |false=>
   have HW:Hid (MO ((((V.setCell ⟨K,0,none⟩ (i64 kind)).setCell ⟨K,1,none⟩ (i64 idx)).setCell ⟨K,2,none⟩ (i64 field)).setCell ⟨K,3,none⟩ (i64 e)) K (s.found false kind idx field e)):=by
    show MO _ _ _;unfold St.found;rw [if_pos ⟨h0,rfl⟩];exact (((HK.o.set 0 _).set 1 _).set 2 _).set 3 _
   go_enter func55,ntmps55
   go_wp2_with fail
   exact bodyPost_end (v:= .tuple #[]) (by simp [results,results55,go_sem]) rfl ⟨rfl,HW.o,(ar.refl _ _).eL.eL.eL.eL⟩
 ·have t1:(s.err==0)=false:=by simpa using h0
  have HN:=ae (St.F0 s ok kind idx field e h0);clear h0;go_enter func55,ntmps55
  go_wp2_with fail
  exact bodyPost_end (v:= .tuple #[]) (by simp [results,results55,go_sem]) rfl ⟨rfl,by rw [HN.o];exact HK.o,ar.refl _ _⟩
def bP (low high:Int) (l:List Int):Bool:=l.all fun x=>decide (low≤x)&&decide (x≤high)
theorem F6 {low high:Int} {l:List Int} (h: ∀j,j<l.length→low≤jG l j∧jG l j≤high):bP low high l=true:=by
 unfold bP;rw [List.all_eq_true];intro x hx;obtain ⟨i,hi,rfl⟩:=List.getElem_of_mem hx;have:=h i hi;rw [kt hi]at this;simp [this.1,this.2]
theorem CX {low high:Int} {l:List Int} {j:Nat} (hj:j<l.length) (h: ¬(low≤jG l j∧jG l j≤high)):bP low high l=false:=by
 unfold bP;rw [List.all_eq_false];refine ⟨l[j],List.getElem_mem hj,?_⟩;rw [kt hj]at h;simpa using h
theorem eY (w:World) (low high:Int) (a:Option Addr) (c:Nat) (l:List Int) (h:aI w a c l):
 Calls prog 56 #[i64 low,i64 high,.slice a l.length c] w fun e w'=>e= .returned (.bool (bP low high l))∧w'=w:=by
 have hle:=h.le;have dQ:=h.cap
 have HL:=ae h;clear h;go_enter func56,ntmps56
 go_wp2_with fail
 go_loopw [7] (fun ii wr=> ∃i:Nat,i≤l.length∧wr=w∧(∀j,j<i→low≤jG l j∧jG l j≤high)∧ii= .int .i64 i) (fun ii _=>l.length-(intOf ii).toNat)
 case atStart=>exact ⟨0,Nat.zero_le _,rfl,fun j hj=>absurd hj (Nat.not_lt_zero _),rfl⟩
 case round=>
  obtain ⟨i,hi,hw,hA,rfl⟩:=hrel;subst hw;by_cases hlt:i<l.length
  ·obtain ⟨b,o,rfl,c0⟩:=HL.o.cell i hlt
   rw [←kt hlt]at c0;have HA:=ae hA;obtain ⟨x,hx⟩: ∃x,x=jG l i:=⟨_,rfl⟩;rw [←hx]at c0;have HX:=ae hx;have jS:(0:Int)≤(i:Int):=by omega
   have jI:(i:Int)<(l.length:Int):=by omega
   have ja: ¬(low≤x∧x≤high)→bP low high l=false:=fun hn=>CX hlt (by rw [←HX.o];exact hn)
   have u_:low≤x∧x≤high→ ∀j,j<i+1→low≤jG l j∧jG l j≤high:=fun hg j hj=>by
    by_cases Aq:j=i
    ·subst Aq;rw [←HX.o];exact hg
    ·exact HA.o j (by omega)
   clear hA hx;cases q1:decide (x<low)with
   |true=>
    have HB:=ae (ja (by simp at q1;omega));clear ja u_;go_wp2_with fail
    go_ret;exact ⟨by rw [HB.o];rfl,rfl⟩
   |false=>
    cases q2:decide (high<x)with
    |true=>
     have HB:=ae (ja (by simp at q2;omega));clear ja u_;go_wp2_with fail
     go_ret;exact ⟨by rw [HB.o];rfl,rfl⟩
    |false=>
     have HG:=ae (u_ (by simp at q1 q2;omega));clear ja u_;go_wp2_with fail
     exact ⟨⟨i+1,by omega,by first|trivial|rfl,HG.o,by go_num⟩,by simp only [intOf];omega⟩
  ·have HF:=ae (F6 (low:=low) (high:=high) (l:=l) (fun j hj=>hA j (by omega)))
   clear hA;go_wp2_with fail
   go_ret;exact ⟨by rw [HF.o];rfl,rfl⟩
def iP (l:List Int):Bool:=(List.range l.length).all fun j=>j==0||decide (jG l (j-1)<jG l j)
theorem kT (l:List Int):iP l=true↔ ∀j,1≤j→j<l.length→jG l (j-1)<jG l j:=by
 unfold iP;rw [List.all_eq_true];constructor
 ·intro h j h1 h2
  have:=h j (List.mem_range.2 h2);simp only [Bool.or_eq_true,beq_iff_eq,decide_eq_true_eq]at this;rcases this with h|h
  ·omega
  ·exact h
 ·intro h j hj
  simp only [Bool.or_eq_true,beq_iff_eq,decide_eq_true_eq];by_cases h0:j=0
  ·exact Or.inl h0
  ·exact Or.inr (h j (by omega) (List.mem_range.1 hj))
def eU (n d:Int):Bool:=decide (1≤d)&&decide (d≤1048576)&&decide (-1048576≤n)&&decide (n≤1048576)
def St.away (s:St) (c:ai) (field:Int) (l:List Int):St:=(s.each l field 0 (IntKind.i64.wrap (c.hours-1))).need (iP l) field 11
theorem St.xR (s:St) (l:List Int) (f a b:Int) (i:Nat) (h:i<l.length):s.each (l.take (i+1)) f a b=(s.each (l.take i) f a b).within f l[i] a b:=by
 unfold St.each;rw [List.take_succ_eq_append_getElem h,List.foldl_append];rfl
theorem St.xS (s:St) (l:List Int) (f a b:Int) (i:Nat) (h:(s.each (l.take i) f a b).err≠0):s.each (l.take i) f a b=s.each l f a b:=by
 have h1:s.each l f a b=(s.each (l.take i) f a b).each (l.drop i) f a b:=by
  unfold St.each;rw [←List.foldl_append,List.take_append_drop]
 rw [h1,St.Ih _ _ _ _ _ h]
theorem AR (w:World) (n d:Int):
 Calls prog 139 #[.agg #[i64 n,i64 d]] w fun e w'=>e= .returned (.bool (eU n d))∧Ext w w':=by
 unfold eU;cases d1:decide (1≤d)with
 |false=>
  go_enter func139,ntmps139
  go_wp2_with fail
  go_ret;exact ⟨by simp,(Ext.refl _).alloc _⟩
 |true=>
  cases d2:decide (d≤1048576)with
  |false=>
   go_enter func139,ntmps139
   go_wp2_with fail
   go_ret;exact ⟨by simp,(Ext.refl _).alloc _⟩
  |true=>
   cases d3:decide (-1048576≤n)with
   |false=>
    go_enter func139,ntmps139
    go_wp2_with fail
    go_ret;exact ⟨by simp,(Ext.refl _).alloc _⟩
   |true=>
    go_enter func139,ntmps139
    go_wp2_with fail
    go_ret;exact ⟨by simp,(Ext.refl _).alloc _⟩
theorem mX (w:World) (a:Option Addr) (c:Nat) (l:List Int) (h:aI w a c l):
 Calls prog 146 #[.slice a l.length c] w fun e w'=>e= .returned (.bool (iP l))∧Ext w w':=by
 have hle:=h.le;have dQ:=h.cap
 have HL:=ae h;clear h;go_enter func146,ntmps146
 go_wp2_with fail
 go_loopw [3] (fun ii wr=> ∃i:Nat,1≤i∧(i≤l.length∨i=1)∧Ext w wr∧(∀j,1≤j→j<i→jG l (j-1)<jG l j)∧ii= .int .i64 i) (fun ii _=>l.length-(intOf ii).toNat)
 case atStart=>exact ⟨1,Nat.le_refl _,Or.inr rfl,Ext.refl _,fun j h1 h2=>by omega,rfl⟩
 case round=>
  obtain ⟨i,h1,hi,hE,hA,rfl⟩:=hrel;by_cases hlt:i<l.length
  ·obtain ⟨b,o,rfl,c0⟩:=(HL.o.ext hE).cell i hlt
   obtain ⟨b',o',e',c1⟩:=(HL.o.ext hE).cell (i-1) (by omega);cases e'
   obtain ⟨p,rfl⟩: ∃p,i=p+1:=⟨i-1,by omega⟩;simp only [Nat.add_sub_cancel]at c1;have e0:jG l (p+1)=l[p+1]:=kt (by omega);have e1:jG l p=l[p]:=kt (by omega);rw [←e0]at c0;rw [←e1]at c1
   have hw:IntKind.i64.wrap (((p+1:Nat):Int)-1)=(p:Int):=by rw [IntKind.wrap_i64];omega
   have HA:=ae hA;have HE:=ae hE
   obtain ⟨x,hx⟩: ∃x,x=jG l (p+1):=⟨_,rfl⟩;obtain ⟨y,hy⟩: ∃y,y=jG l p:=⟨_,rfl⟩;rw [←hx]at c0;rw [←hy]at c1
   have HX:=ae hx;have HY:=ae hy
   have jS:(0:Int)≤((p+1:Nat):Int):=by omega
   have jI:((p+1:Nat):Int)<(l.length:Int):=by omega
   have NZ:(0:Int)≤(p:Int):=by omega
   have N1:(p:Int)<(l.length:Int):=by omega
   have CY:(0:Int)≤(p:Int)+1:=by omega
   have CZ:(p:Int)+1<(l.length:Int):=by omega
   have We: ¬((p:Int)+1<0):=by omega
   have hw2:IntKind.i64.wrap (p:Int)=(p:Int):=by rw [IntKind.wrap_i64];omega
   have k0:wr.drew.cell? ⟨b,o+(p+1),none⟩=some (.int .i64 x):=c0;have k1:wr.drew.cell? ⟨b,o+p,none⟩=some (.int .i64 y):=c1;clear hA hE hx hy e0 e1 c0 c1;go_wp2_with fail
   refine aL (fun w'=>w'.cell? ⟨b,o+(p+1),none⟩=some (.int .i64 x)∧w'.cell? ⟨b,o+p,none⟩=some (.int .i64 y)) (fun w'=>True) (fun i=>false) (by kernel_rfl) (⟨k0,k1⟩) (trivial) (fun ay ah=> ?_);refine aF 0 ay ah ?_;refine aF 1 ay ah ?_ (v:= .int .i64 ((p+1:Nat):Int));refine aF 2 ay ah ?_;refine aF 3 ay ah ?_ (v:= .int .i64 x);refine aF 4 ay ah ?_;refine aF 5 ay ah ?_ (v:= .int .i64 ((p+1:Nat):Int));refine aF 6 ay ah ?_ (v:= .int .i64 (p:Int));refine aF 7 ay ah ?_;refine aF 8 ay ah ?_ (v:= .int .i64 y);refine aF 9 ay ah ?_ (v:= .bool (decide (x≤y)));refine aD (by kernel_rfl) ?_ _;clear ay ah;by_cases pF:x≤y
   ·have t:decide (x≤y)=true:=by simpa using pF
    have hf:iP l=false:=by
     cases hq:iP l with
     |false=>rfl
     |true=>
      have:=(kT l).1 hq (p+1) (by omega) hlt;simp only [Nat.add_sub_cancel]at this;rw [←HX.o,←HY.o]at this;omega
    go_wp2_with fail
    go_ret;exact ⟨by rw [hf];rfl,HE.o.drew⟩
   ·have t:decide (x≤y)=false:=by simpa using pF
    have hn: ∀j,1≤j→j<p+1+1→jG l (j-1)<jG l j:=by
     intro j a1 a2;by_cases hj:j=p+1
     ·subst hj
      simp only [Nat.add_sub_cancel];rw [←HX.o,←HY.o];omega
     ·exact HA.o j a1 (by omega)
    have HN:=ae hn;clear hn k0 k1;go_wp2_with fail
    exact ⟨⟨p+1+1,by omega,Or.inl (by omega),HE.o.drew,HN.o,by go_num⟩,by simp only [intOf];omega⟩
  ·have ht:iP l=true:=(kT l).2 (fun j a1 a2=>hA j a1 (by omega))
   clear hA;go_wp2_with fail
   go_ret;exact ⟨by rw [ht];rfl,hE⟩
theorem vd (w0 V:World) (K:Nat) (c:ai) (s:St) (field least most:Int) (a:Option Addr) (cc:Nat) (l:List Int) (hK:w0.heap.size≤K) (hV:Ext w0 V) (hl:aI w0 a cc l) (h:iN V K c s):
 Calls prog 133 #[.pointer (some ⟨K,0,none⟩),i64 field,.slice a l.length cc,i64 least,i64 most] V fun e' w'=>mq V K c (s.mW c field l least most) e' w':=by
 have hle:=hl.le;have dQ:=hl.cap
 have HL:=ae hl;have HV:=ae hV
 have hq:((l.length:Int)==c.hours)=decide ((l.length:Int)=c.hours):=by rw [Bool.eq_iff_iff];simp
 have hC:=eT V K c s (decide ((l.length:Int)=c.hours)) field 4 h;obtain ⟨c0,-⟩:=eC h;unfold St.mW;obtain ⟨s1,hs1⟩: ∃s1,s.need (decide ((l.length:Int)=c.hours)) field 4=s1:=⟨_,rfl⟩;rw [hs1]at hC⊢;have HC:=ae hC;clear h hl hV hs1 hC;go_enter func133,ntmps133
 go_wp2_with fail
 first
  |refine HC.o.mono ?_
  |(rw [hq];refine HC.o.mono ?_)
 rintro e w1 ⟨rfl,K7,hx1⟩;have H1:=ae K7;have X1:=ae hx1
 clear K7 hx1 c0 HC hq;go_wp2_with fail
 go_loopw [25] (fun ii wr=> ∃i:Nat,i≤l.length∧iN wr K c (s1.each (l.take i) field least most)∧ar K V wr∧ii= .int .i64 i) (fun ii _=>l.length-(intOf ii).toNat)
 case atStart=>exact ⟨0,Nat.zero_le _,H1.o,X1.o,rfl⟩
 case round=>
  obtain ⟨i,hi,hk,hx,rfl⟩:=hrel;clear H1 X1;by_cases hlt:i<l.length
  ·have hE:=hx.ext HV.o hK
   obtain ⟨b,o,rfl,cl⟩:=(HL.o.ext hE).cell i hlt;obtain ⟨-,-,-,c11,-⟩:=oh hk;have HN:=ae (St.xR s1 l field least most i hlt);have hst:=St.xS s1 l field least most i;generalize s1.each (l.take i) field least most=s2 at*;have HX:=ae hx;have HW:=ae (iO wr K c s2 field l[i] least most hk);have ve:=ae hk;have jS:(0:Int)≤(i:Int):=by omega
   have jI:(i:Int)<(l.length:Int):=by omega
   clear hx hE hk;by_cases h0:s2.err=0
   ·have t1:(s2.err !=0)=false:=by simpa using h0
    clear hst h0;go_wp2_with fail
    refine HW.o.mono ?_;rintro e w2 ⟨rfl,hk2,hx2⟩;go_wp2_with fail
    exact ⟨⟨i+1,by omega,by rw [HN.o];exact hk2,HX.o.trans hx2,by go_num⟩,by simp only [intOf];omega⟩
   ·have t1:(s2.err !=0)=true:=by simpa using h0
    have HST:=ae (hst h0);clear hst h0;go_wp2_with fail
    exact bodyPost_ret (v:= .tuple #[]) (by simp [results,results133,go_sem]) rfl ⟨rfl,by rw [←HST.o];exact ve.o,HX.o⟩
  ·obtain rfl:i=l.length:=by omega
   rw [List.take_length]at hk;go_wp2_with fail
   exact bodyPost_end (v:= .tuple #[]) (by simp [results,results133,go_sem]) rfl ⟨rfl,hk,hx⟩
theorem Ii (w0 V:World) (K:Nat) (c:ai) (s:St) (field:Int) (a:Option Addr) (cc:Nat) (l:List Int) (hK:w0.heap.size≤K) (hV:Ext w0 V) (hl:aI w0 a cc l) (h:iN V K c s):
 Calls prog 140 #[.pointer (some ⟨K,0,none⟩),i64 field,.slice a l.length cc] V fun e' w'=>mq V K c (s.away c field l) e' w':=by
 have hle:=hl.le;have dQ:=hl.cap
 have HL:=ae hl;have HV:=ae hV
 unfold St.away;have HH:=ae h;obtain ⟨H1,Wh⟩: ∃H1,IntKind.i64.wrap (c.hours-1)=H1:=⟨_,rfl⟩;rw [Wh];clear h hl hV;go_enter func140,ntmps140
 go_wp2_with fail
 go_loopw [10] (fun ii wr=> ∃i:Nat,i≤l.length∧iN wr K c (s.each (l.take i) field 0 H1)∧ar K V wr∧ii= .int .i64 i) (fun ii _=>l.length-(intOf ii).toNat)
 case atStart=>exact ⟨0,Nat.zero_le _,HH.o,ar.refl _ _,rfl⟩
 case round=>
  obtain ⟨i,hi,hk,hx,rfl⟩:=hrel;clear HH;by_cases hlt:i<l.length
  ·have hE:=hx.ext HV.o hK
   obtain ⟨b,o,rfl,cl⟩:=(HL.o.ext hE).cell i hlt;obtain ⟨-,-,-,c11,-⟩:=oh hk;obtain ⟨c0,-⟩:=eC hk;have HN:=ae (St.xR s l field 0 H1 i hlt);have hst:=St.xS s l field 0 H1 i;generalize s.each (l.take i) field 0 H1=s2 at*;have HX:=ae hx;have HW:=ae (iO wr K c s2 field l[i] 0 H1 hk);have ve:=ae hk;have jS:(0:Int)≤(i:Int):=by omega
   have jI:(i:Int)<(l.length:Int):=by omega
   clear hx hE hk;by_cases h0:s2.err=0
   ·have t1:(s2.err !=0)=false:=by simpa using h0
    clear hst h0;go_wp2_with fail
    refine HW.o.mono ?_;rintro e w2 ⟨rfl,hk2,hx2⟩;go_wp2_with fail
    exact ⟨⟨i+1,by omega,by rw [HN.o];exact hk2,HX.o.trans hx2,by go_num⟩,by simp only [intOf];omega⟩
   ·have t1:(s2.err !=0)=true:=by simpa using h0
    have hse:=hst h0;have pA:(s.each l field 0 H1).need (iP l) field 11=s2:=by rw [←hse];exact St.ik _ _ _ _ h0
    have HST:=ae pA;clear hst h0 hse pA;go_wp2_with fail
    exact bodyPost_ret (v:= .tuple #[]) (by simp [results,results140,go_sem]) rfl ⟨rfl,by rw [HST.o];exact ve.o,HX.o⟩
  ·obtain rfl:i=l.length:=by omega
   rw [List.take_length]at hk;have hE:=hx.ext HV.o hK;have HA:=ae (mX wr a cc l (HL.o.ext hE));have HX:=ae hx;have ve:=ae hk
   have adg:=hk.lt;clear hk hx hE;go_wp2_with fail
   refine HA.o.mono ?_;rintro e w2 ⟨rfl,x2⟩;have HC:=ae (eT w2 K c (s.each l field 0 H1) (iP l) field 11 (ve.o.ext x2));go_wp2_with fail
   refine HC.o.mono ?_;rintro e w3 ⟨rfl,hk3,hx3⟩;go_wp2_with fail
   exact bodyPost_end (v:= .tuple #[]) (by simp [results,results140,go_sem]) rfl ⟨rfl,hk3,HX.o.trans ((x2.but K).trans hx3)⟩
theorem pT (w:World) (a:Option Addr) (c:Nat) (l:List Int) (h:aI w a c l):
 Calls prog 102 #[.slice a l.length c] w fun e w'=>e= .returned (.bool (iP l))∧Ext w w':=by
 have hle:=h.le;have dQ:=h.cap
 have HL:=ae h;clear h;go_enter func102,ntmps102
 go_wp2_with fail
 go_loopw [3] (fun ii wr=> ∃i:Nat,1≤i∧(i≤l.length∨i=1)∧Ext w wr∧(∀j,1≤j→j<i→jG l (j-1)<jG l j)∧ii= .int .i64 i) (fun ii _=>l.length-(intOf ii).toNat)
 case atStart=>exact ⟨1,Nat.le_refl _,Or.inr rfl,Ext.refl _,fun j h1 h2=>by omega,rfl⟩
 case round=>
  obtain ⟨i,h1,hi,hE,hA,rfl⟩:=hrel;by_cases hlt:i<l.length
  ·obtain ⟨b,o,rfl,c0⟩:=(HL.o.ext hE).cell i hlt
   obtain ⟨b',o',e',c1⟩:=(HL.o.ext hE).cell (i-1) (by omega);cases e'
   obtain ⟨p,rfl⟩: ∃p,i=p+1:=⟨i-1,by omega⟩;simp only [Nat.add_sub_cancel]at c1;have e0:jG l (p+1)=l[p+1]:=kt (by omega);have e1:jG l p=l[p]:=kt (by omega);rw [←e0]at c0;rw [←e1]at c1
   have hw:IntKind.i64.wrap (((p+1:Nat):Int)-1)=(p:Int):=by rw [IntKind.wrap_i64];omega
   have HA:=ae hA;have HE:=ae hE
   obtain ⟨x,hx⟩: ∃x,x=jG l (p+1):=⟨_,rfl⟩;obtain ⟨y,hy⟩: ∃y,y=jG l p:=⟨_,rfl⟩;rw [←hx]at c0;rw [←hy]at c1
   have HX:=ae hx;have HY:=ae hy
   have jS:(0:Int)≤((p+1:Nat):Int):=by omega
   have jI:((p+1:Nat):Int)<(l.length:Int):=by omega
   have NZ:(0:Int)≤(p:Int):=by omega
   have N1:(p:Int)<(l.length:Int):=by omega
   have CY:(0:Int)≤(p:Int)+1:=by omega
   have CZ:(p:Int)+1<(l.length:Int):=by omega
   have We: ¬((p:Int)+1<0):=by omega
   have hw2:IntKind.i64.wrap (p:Int)=(p:Int):=by rw [IntKind.wrap_i64];omega
   have k0:wr.drew.cell? ⟨b,o+(p+1),none⟩=some (.int .i64 x):=c0;have k1:wr.drew.cell? ⟨b,o+p,none⟩=some (.int .i64 y):=c1;clear hA hE hx hy e0 e1 c0 c1;go_wp2_with fail
   refine aL (fun w'=>w'.cell? ⟨b,o+(p+1),none⟩=some (.int .i64 x)∧w'.cell? ⟨b,o+p,none⟩=some (.int .i64 y)) (fun w'=>True) (fun i=>false) (by kernel_rfl) (⟨k0,k1⟩) (trivial) (fun ay ah=> ?_);refine aF 0 ay ah ?_;refine aF 1 ay ah ?_ (v:= .int .i64 ((p+1:Nat):Int));refine aF 2 ay ah ?_;refine aF 3 ay ah ?_ (v:= .int .i64 x);refine aF 4 ay ah ?_;refine aF 5 ay ah ?_ (v:= .int .i64 ((p+1:Nat):Int));refine aF 6 ay ah ?_ (v:= .int .i64 (p:Int));refine aF 7 ay ah ?_;refine aF 8 ay ah ?_ (v:= .int .i64 y);refine aF 9 ay ah ?_ (v:= .bool (decide (x≤y)));refine aD (by kernel_rfl) ?_ _;clear ay ah;by_cases pF:x≤y
   ·have t:decide (x≤y)=true:=by simpa using pF
    have hf:iP l=false:=by
     cases hq:iP l with
     |false=>rfl
     |true=>
      have:=(kT l).1 hq (p+1) (by omega) hlt;simp only [Nat.add_sub_cancel]at this;rw [←HX.o,←HY.o]at this;omega
    go_wp2_with fail
    go_ret;exact ⟨by rw [hf];rfl,HE.o.drew⟩
   ·have t:decide (x≤y)=false:=by simpa using pF
    have hn: ∀j,1≤j→j<p+1+1→jG l (j-1)<jG l j:=by
     intro j a1 a2;by_cases hj:j=p+1
     ·subst hj
      simp only [Nat.add_sub_cancel];rw [←HX.o,←HY.o];omega
     ·exact HA.o j a1 (by omega)
    have HN:=ae hn;clear hn k0 k1;go_wp2_with fail
    exact ⟨⟨p+1+1,by omega,Or.inl (by omega),HE.o.drew,HN.o,by go_num⟩,by simp only [intOf];omega⟩
  ·have ht:iP l=true:=(kT l).2 (fun j a1 a2=>hA j a1 (by omega))
   clear hA;go_wp2_with fail
   go_ret;exact ⟨by rw [ht];rfl,hE⟩
def hasB (l:List Int) (v:Int):Bool:=l.any fun x=>x==v
theorem vg (l:List Int) (v:Int):hasB l v=true↔ ∃i,i<l.length∧jG l i=v:=by
 unfold hasB;rw [List.any_eq_true];constructor
 ·rintro ⟨x,hx,e⟩
  obtain ⟨i,hi,rfl⟩:=List.getElem_of_mem hx;exact ⟨i,hi,by rw [kt hi];simpa using e⟩
 ·rintro ⟨i,hi,e⟩
  exact ⟨l[i],List.getElem_mem hi,by rw [kt hi]at e;simpa using e⟩
theorem xV (l:List Int) (v:Int) (h: ∀j,j<l.length→jG l j≠v):hasB l v=false:=by
 cases hq:hasB l v with
 |false=>rfl
 |true=>
  obtain ⟨i,hi,e⟩:=(vg l v).1 hq;exact absurd e (h i hi)
theorem Ij (w:World) (a:Option Addr) (c:Nat) (l:List Int) (v:Int) (h:aI w a c l):
 Calls prog 150 #[.slice a l.length c,i64 v] w fun e w'=> ∃r:Int,e= .returned (i64 r)∧decide (0≤r)=hasB l v∧w'=w:=by
 have hle:=h.le;have dQ:=h.cap
 have HL:=ae h;clear h;go_enter func150,ntmps150
 go_wp2_with fail
 go_loopw [8] (fun ii wr=> ∃i:Nat,i≤l.length∧wr=w∧(∀j,j<i→jG l j≠v)∧ii= .int .i64 i) (fun ii _=>l.length-(intOf ii).toNat)
 case atStart=>exact ⟨0,Nat.zero_le _,rfl,fun j hj=>absurd hj (Nat.not_lt_zero _),rfl⟩
 case round=>
  obtain ⟨i,hi,hw,hA,rfl⟩:=hrel;subst hw;by_cases hlt:i<l.length
  ·obtain ⟨b,o,rfl,c0⟩:=HL.o.cell i hlt
   rw [←kt hlt]at c0;have HA:=ae hA;obtain ⟨x,hx⟩: ∃x,x=jG l i:=⟨_,rfl⟩;rw [←hx]at c0;have HX:=ae hx;have jS:(0:Int)≤(i:Int):=by omega
   have jI:(i:Int)<(l.length:Int):=by omega
   clear hA hx;by_cases pU:x=v
   ·have t:(v==x)=true:=by rw [pU];simp
    have hh:decide ((0:Int)≤(i:Int))=hasB l v:=by
     rw [(vg l v).2 ⟨i,hlt,by rw [←HX.o];exact pU⟩];simp
    have HH:=ae hh;clear hh pU;go_wp2_with fail
    go_ret;exact ⟨_,rfl,HH.o,rfl⟩
   ·have t:(v==x)=false:=by simpa using fun e=>pU e.symm
    have hn: ∀j,j<i+1→jG l j≠v:=fun j hj=>by
     by_cases Aq:j=i
     ·subst Aq;rw [←HX.o];exact pU
     ·exact HA.o j (by omega)
    have HN:=ae hn;clear hn pU;go_wp2_with fail
    exact ⟨⟨i+1,by omega,by first|trivial|rfl,HN.o,by go_num⟩,by simp only [intOf];omega⟩
  ·have hf:=xV l v (fun j hj=>hA j (by omega))
   have HF:=ae hf;clear hA hf;go_wp2_with fail
   go_ret;exact ⟨_,rfl,by rw [HF.o];rfl,rfl⟩
theorem tI (w:World) (a:Option Addr) (c:Nat) (l:List Int) (v:Int) (h:aI w a c l):
 Calls prog 87 #[.slice a l.length c,i64 v] w fun e w'=>e= .returned (.bool (hasB l v))∧w'=w:=by
 have HI:=ae (Ij w a c l v h);clear h;go_enter func87,ntmps87
 go_wp2_with fail
 refine HI.o.mono ?_;rintro e w1 ⟨r,rfl,hr,rfl⟩;go_wp2_with fail
 go_ret;exact ⟨by rw [←hr];rfl,rfl⟩
theorem za (w:World) (a:Option Addr) (c:Nat) (l:List Int) (v:Int) (h:aI w a c l):
 Calls prog 63 #[.slice a l.length c,i64 v] w fun e w'=>e= .returned (.bool (hasB l v))∧w'=w:=by
 have hle:=h.le;have dQ:=h.cap
 have HL:=ae h;clear h;go_enter func63,ntmps63
 go_wp2_with fail
 go_loopw [5] (fun ii wr=> ∃i:Nat,i≤l.length∧wr=w∧(∀j,j<i→jG l j≠v)∧ii= .int .i64 i) (fun ii _=>l.length-(intOf ii).toNat)
 case atStart=>exact ⟨0,Nat.zero_le _,rfl,fun j hj=>absurd hj (Nat.not_lt_zero _),rfl⟩
 case round=>
  obtain ⟨i,hi,hw,hA,rfl⟩:=hrel;subst hw;by_cases hlt:i<l.length
  ·obtain ⟨b,o,rfl,c0⟩:=HL.o.cell i hlt
   rw [←kt hlt]at c0;have HA:=ae hA;obtain ⟨x,hx⟩: ∃x,x=jG l i:=⟨_,rfl⟩;rw [←hx]at c0;have HX:=ae hx;have jS:(0:Int)≤(i:Int):=by omega
   have jI:(i:Int)<(l.length:Int):=by omega
   clear hA hx;by_cases pU:x=v
   ·have t:(x==v)=true:=by rw [pU];simp
    have HH:=ae ((vg l v).2 ⟨i,hlt,by rw [←HX.o];exact pU⟩);clear pU;go_wp2_with fail
    go_ret;exact ⟨by rw [HH.o];rfl,rfl⟩
   ·have t:(x==v)=false:=by simpa using pU
    have hn: ∀j,j<i+1→jG l j≠v:=fun j hj=>by
     by_cases Aq:j=i
     ·subst Aq;rw [←HX.o];exact pU
     ·exact HA.o j (by omega)
    have HN:=ae hn;clear hn pU;go_wp2_with fail
    exact ⟨⟨i+1,by omega,by first|trivial|rfl,HN.o,by go_num⟩,by simp only [intOf];omega⟩
  ·have HF:=ae (xV l v (fun j hj=>hA j (by omega)))
   clear hA;go_wp2_with fail
   go_ret;exact ⟨by rw [HF.o];rfl,rfl⟩
end Go.Proofs.YtkpngkdgphojlaaGreat
