/- Texts of the proof. -/
import Derived.Test.YtkpngkdgphojlaaGreatCc1
set_option linter.all false
namespace Go.Proofs.YtkpngkdgphojlaaGreat
open Go.RowKit
structure jA (w:World) (B U:Nat) (a:Option Addr) (c:Nat) (xs:List Int):Prop where
 le:xs.length≤c
 cap:c≤9223372036854775807
 cell: ∀i (h:i<xs.length),∃g,a=some ⟨g,0,none⟩∧B≤g∧g<U∧w.cell? ⟨g,i,none⟩=some (.int .i64 xs[i])∧w.frozen? ⟨g,i,none⟩=false
theorem jA.ext {w w':World} {B U:Nat} {a:Option Addr} {c:Nat} {xs:List Int} (h:jA w B U a c xs) (e:Ext w w'):jA w' B U a c xs:=
 ⟨h.le,h.cap,fun i hi=>by
   obtain ⟨g,h1,h2,h3,h4,h5⟩:=h.cell i hi;exact ⟨g,h1,h2,h3,ai e h4,E9 e h4 h5⟩⟩
theorem jA.at {w:World} {B U:Nat} {a:Option Addr} {c:Nat} {xs:List Int} (h:jA w B U a c xs) (h0:0<xs.length): ∃g,a=some ⟨g,0,none⟩∧B≤g∧g<U:=by
 obtain ⟨g,h1,h2,h3,_⟩:=h.cell 0 h0;exact ⟨g,h1,h2,h3⟩
theorem jA.other {w:World} {B U:Nat} {a:Option Addr} {c:Nat} {xs:List Int} (h:jA w B U a c xs) (p:Addr) (v:Value) (hp:p.block<B∨U≤p.block):jA (w.setCell p v) B U a c xs:=
 ⟨h.le,h.cap,fun i hi=>by
   obtain ⟨g,h1,h2,h3,h4,h5⟩:=h.cell i hi;refine ⟨g,h1,h2,h3,?_,by rw [World.frozen?_setCell];exact h5⟩;rw [World.cell?_setCell_far _ _ _ _ (by simp only;omega)];exact h4⟩
theorem jA.set {w:World} {B U g c:Nat} {xs:List Int} (h:jA w B U (some ⟨g,0,none⟩) c xs) (j:Nat) (x:Int):jA (w.setCell ⟨g,j,none⟩ (.int .i64 x)) B U (some ⟨g,0,none⟩) c (xs.set j x):=
 ⟨by rw [List.length_set];exact h.le,h.cap,fun i hi=>by
   rw [List.length_set]at hi;obtain ⟨g',e,h2,h3,h4,h5⟩:=h.cell i hi;cases e
   refine ⟨g,rfl,h2,h3,?_,by rw [World.frozen?_setCell];exact h5⟩;by_cases SH:j=i
   ·subst SH
    rw [List.getElem_set_self];exact World.cell?_setCell_same _ _ _ h4
   ·rw [List.getElem_set_ne SH,World.cell?_setCell_other _ _ _ _ (by intro e;simp only [Addr.mk.injEq]at e;omega)];exact h4⟩
open Go
def Da (Z:Nat→Bool) (ls:Array Bool):Prop:= ∀j,Z j=true→ls.getD j false=false
def Cg (Z:Nat→Bool) (ls:Array Bool):Bool:=(List.range ls.size).any fun j=>Z j&&ls.getD j false
theorem Ch {Z:Nat→Bool} {ls:Array Bool} {j:Nat} (h:Da Z (ls.setIfInBounds j true)):Da Z ls:=by
 intro k hk;have h1:=h k hk;by_cases hjk:j=k
 ·subst hjk
  by_cases hl:j<ls.size
  ·simp [Array.getD,hl]at h1
  ·simp [Array.getD,hl]
 ·rw [getD_set_ne false hjk]at h1;exact h1
theorem yi {Z:Nat→Bool} {ls:Array Bool} {j:Nat} (h:Da Z ls) (hj:Z j=false):Da Z (ls.setIfInBounds j true):=by
 intro k hk;by_cases hjk:j=k
 ·subst hjk;rw [hk]at hj;cases hj
 ·rw [getD_set_ne false hjk];exact h k hk
theorem Ci {Z:Nat→Bool} {ls:Array Bool} (h:Cg Z ls=true): ¬Da Z ls:=by
 intro hn;obtain ⟨j,_,h2⟩:=List.any_eq_true.1 h;rw [Bool.and_eq_true]at h2;rw [hn j h2.1]at h2;exact absurd h2.2 (by decide)
section
variable{P:Program} {ops:Array Oper} {Q:Exit→Act→World→Prop} {md:Region.Mode} {S R:World→Prop} {Z:Nat→Bool}
def eX (P:Program) (md:Region.Mode) (ops:Array Oper) (Q:Exit→Act→World→Prop) (S R:World→Prop) (Z:Nat→Bool):Nat→Array Bool→Act→World→Prop
 |0,ls,a,w=>Region.ready md ops ls= []∧Q .normal a w
 |n+1,ls,a,w=>(Region.ready md ops ls= []→Q .normal a w)∧
  ∀i∈Region.ready md ops ls,wpOp P ops Q i (fun a' w'=>S w'∧(Da Z (ls.setIfInBounds i true)→R w')∧eX P md ops Q S R Z n (ls.setIfInBounds i true) a' w') a w
theorem k9: ∀(n:Nat) (ls:Array Bool) (a:Act) (w:World),eX P md ops Q S R Z n ls a w→wpAny P md ops Q n ls a w
 |0,_,_,_,h=>h
 |n+1,_,_,_,h=>⟨h.1,fun i hi=>wpOp_mono (fun a' w' h'=>k9 n _ a' w' h'.2.2) (h.2 i hi)⟩
theorem oP {T:World→Prop} {i:Nat} {oi:Oper} {v:Value} (hi:ops[i]?=some oi) (OU:Z i=false) (OV: ∀(j:Nat) (o:Oper) cs b,ops[j]?=some o→o.op≠ .select cs b)
 (hQ: ∀c a w,Q (.panic c) (a.put oi.dst v) w→Q (.panic c) a w)
 (hT:(∀w,S w→T w)∨((∀w,S w→R w→T w)∧ ∀j oj,ops[j]?=some oj→Z j=true→ ∃e∈oj.after,Region.binds md e=true∧e.on=i)):
 ∀(n:Nat) (ls:Array Bool) (a:Act) (w:World),
  (∀j oj,ops[j]?=some oj→j≠i→ls.getD j true=false→(∀e∈oj.after,Region.binds md e=true→e.on≠i)→oi.apart ops oj=true)→
  i∈Region.ready md ops ls→YieldsIf P ops T oi v a→S w→(Da Z ls→R w)→((∀w,S w→T w)∨Da Z ls)→
  eX P md ops Q S R Z n (ls.setIfInBounds i true) (a.put oi.dst v) w→eX P md ops Q S R Z (n+1) ls a w:=by
 have now: ∀(ls:Array Bool) (w:World),S w→(Da Z ls→R w)→((∀w,S w→T w)∨Da Z ls)→T w:=by
  intro ls w hS hR hn;rcases hn with h|h
  ·exact h w hS
  ·rcases hT with h'|h'
   ·exact h' w hS
   ·exact h'.1 w hS (hR h)
 intro n;induction n with
 |zero=>
  intro ls a w _ hr hy hS hR hn H;refine ⟨fun h=>(by rw [h]at hr;cases hr),fun j hj=> ?_⟩;by_cases rF:j=i
  ·subst rF;exact hy.wpOp hi (now ls w hS hR hn) ⟨hS,fun h=>hR (Ch h),H⟩
  ·have:=ready_mono hj rF
   rw [H.1]at this;cases this
 |succ n ih=>
  intro ls a w KC hr hy hS hR hn H;refine ⟨fun h=>(by rw [h]at hr;cases hr),fun j hj=> ?_⟩;by_cases rF:j=i
  ·subst rF;exact hy.wpOp hi (now ls w hS hR hn) ⟨hS,fun h=>hR (Ch h),H⟩
  ·have h1:=H.2 j (ready_mono hj rF)
   obtain ⟨OX,oj,SI,hall⟩:=mem_ready.1 hj
   have OY: ∀e∈oj.after,Region.binds md e=true→e.on≠i:=fun e he hb heq=>by
    have h1:=hall e he hb;have h0:=(mem_ready.1 hr).1;rw [heq]at h1;rcases Nat.lt_or_ge i ls.size with h'|h'
    ·simp [h']at h0 h1;rw [h0]at h1;cases h1
    ·simp [Array.getElem?_eq_none h']at h1
   have OZ:(∀w,S w→T w)∨Da Z (ls.setIfInBounds j true):=by
    rcases hT with h'|h'
    ·exact Or.inl h'
    ·rcases hn with TF|TF
     ·exact Or.inl TF
     ·refine Or.inr (yi TF ?_)
      cases hz:Z j with
      |false=>rfl
      |true=>
       obtain ⟨e,he,hb,heq⟩:=h'.2 j oj SI hz;exact absurd heq (OY e he hb)
   have h2:=wpOp_putIf SI (KC j oj SI rF OX OY) (fun cs b=>OV i oi cs b hi) (fun cs b=>OV j oj cs b SI) hQ hy h1
   have Lr: ∀k ok,ops[k]?=some ok→k≠i→(ls.setIfInBounds j true).getD k true=false→
    (∀e∈ok.after,Region.binds md e=true→e.on≠i)→oi.apart ops ok=true:=fun k ok hk SJ NT hno=>by
    refine KC k ok hk SJ ?_ hno;by_cases hjk:j=k
    ·subst hjk;exact OX
    ·rw [getD_set_ne true hjk]at NT;exact NT
   have KE: ∀l:Array Bool,(l.setIfInBounds i true).setIfInBounds j true=(l.setIfInBounds j true).setIfInBounds i true:=fun l=>by rw [Array.setIfInBounds_comm _ _ rF]
   refine wpOp_mono (fun a' w' h3=> ?_) h2;have h4:Da Z (ls.setIfInBounds j true)→R w':=fun hz=>h3.2.2.1 (by rw [KE];exact yi hz OU);exact ⟨h3.2.1,h4,ih (ls.setIfInBounds j true) a' w' Lr (ready_mono hr (Ne.symm rF)) h3.1 h3.2.1 h4 OZ (by rw [←KE];exact h3.2.2.2)⟩
theorem jZ {i:Nat} {oi:Oper} {v:Value} {n:Nat} {ls:Array Bool} {a:Act} {w:World} (hi:ops[i]?=some oi)
 (hs:Region.noSelect ops=true) (hf:Region.free md ops ls i=true) (hr:(Region.ready md ops ls).contains i=true) (OU:Z i=false)
 (hQ: ∀c a w,Q (.panic c) (a.put oi.dst v) w→Q (.panic c) a w) (hy:YieldsIf P ops S oi v a) (hS:S w) (hR:R w∨Cg Z ls=true)
 (h:eX P md ops Q S R Z n (ls.setIfInBounds i true) (a.put oi.dst v) w):eX P md ops Q S R Z (n+1) ls a w:=
 oP (T:=S) hi OU (Region.noSelect_spec hs) hQ (Or.inl fun _ h=>h) n ls a w (Region.free_spec hi hf) (by simpa using hr) hy hS (fun hn=>hR.elim id (fun h=>absurd hn (Ci h))) (Or.inl fun _ h=>h) h
theorem cK {i:Nat} {oi:Oper} {v:Value} {n:Nat} {ls:Array Bool} {a:Act} {w:World} (hi:ops[i]?=some oi)
 (hs:Region.noSelect ops=true) (hf:Region.free md ops ls i=true) (hr:(Region.ready md ops ls).contains i=true) (OU:Z i=false) (hz:E_ md ops Z i=true) (hl:Cg Z ls=false)
 (hQ: ∀c a w,Q (.panic c) (a.put oi.dst v) w→Q (.panic c) a w) (hy:YieldsIf P ops (fun w=>S w∧R w) oi v a) (hS:S w) (hR:R w)
 (h:eX P md ops Q S R Z n (ls.setIfInBounds i true) (a.put oi.dst v) w):eX P md ops Q S R Z (n+1) ls a w:=
 oP (T:=fun w=>S w∧R w) hi OU (Region.noSelect_spec hs) hQ (Or.inr ⟨fun _ h1 h2=>⟨h1,h2⟩,ye hz⟩) n ls a w (Region.free_spec hi hf) (by simpa using hr) hy hS (fun _=>hR) (Or.inr fun j hj=>by
  by_cases Au:j<ls.size
  ·have h1:=List.any_eq_false.1 hl j (List.mem_range.2 Au)
   rw [hj,Bool.true_and]at h1;simpa using h1
  ·simp [Array.getD,Au]) h
def aD (P:Program) (md:Region.Mode) (ops:Array Oper) (Q:Exit→Act→World→Prop) (S R:World→Prop) (Z:Nat→Bool) (n:Nat) (ls:Array Bool) (a:Act) (w:World) (rs:List Nat):Prop:=
 ∀i∈rs,wpOp P ops Q i (fun a' w'=>S w'∧(Da Z (ls.setIfInBounds i true)→R w')∧eX P md ops Q S R Z n (ls.setIfInBounds i true) a' w') a w
theorem aD.nil {n:Nat} {ls:Array Bool} {a:Act} {w:World}:aD P md ops Q S R Z n ls a w []:=fun _ h=>by cases h
theorem aD.cons {n:Nat} {ls:Array Bool} {a:Act} {w:World} {i:Nat} {o:Oper} {rs:List Nat} (ho:ops[i]?=some o)
 (h: ∀K':Act→World→Prop,Shut (∀a w,S w→R w→(S w→R w→eX P md ops Q S R Z n (ls.setIfInBounds i true) a w)→K' a w)→if Region.wanted o (yielded ops a.tmps)=true then Oper.wp P o a w K' Q else K' (a.put o.dst undef) w)
 (hs:aD P md ops Q S R Z n ls a w rs):aD P md ops Q S R Z n ls a w (i::rs):=fun j hj=>by
 rcases List.mem_cons.1 hj with rfl|hj
 ·exact wpOp_step ho (fun K' hK=>h K' (fun a w hS hR hW=>hK a w ⟨hS,fun _=>hR,hW hS hR⟩))
 ·exact hs j hj
theorem aD.late {n:Nat} {ls:Array Bool} {a:Act} {w:World} {i:Nat} {o:Oper} {rs:List Nat} (ho:ops[i]?=some o) (hz:Cg Z (ls.setIfInBounds i true)=true)
 (h: ∀K':Act→World→Prop,Shut (∀a w,S w→(S w→eX P md ops Q S R Z n (ls.setIfInBounds i true) a w)→K' a w)→if Region.wanted o (yielded ops a.tmps)=true then Oper.wp P o a w K' Q else K' (a.put o.dst undef) w)
 (hs:aD P md ops Q S R Z n ls a w rs):aD P md ops Q S R Z n ls a w (i::rs):=fun j hj=>by
 rcases List.mem_cons.1 hj with rfl|hj
 ·exact wpOp_step ho (fun K' hK=>h K' (fun a w hS hW=>hK a w ⟨hS,fun e=>absurd e (Ci hz),hW hS⟩))
 ·exact hs j hj
theorem aZ {rs:List Nat} {n:Nat} {ls:Array Bool} {a:Act} {w:World} (hr:Region.ready md ops ls=rs) (hne:rs≠ [])
 (h:aD P md ops Q S R Z n ls a w rs):eX P md ops Q S R Z (n+1) ls a w:=⟨fun h0=>absurd (hr▸h0) hne,hr▸h⟩
theorem ax {ls:Array Bool} {a:Act} {w:World} (hr:Region.ready md ops ls= []) (h:Q .normal a w): ∀n,eX P md ops Q S R Z n ls a w
 |0=>⟨hr,h⟩
 |_+1=>⟨fun _=>h,by rw [hr];simp⟩
theorem ay {id:Nat} {a:Act} {w:World} (S R:World→Prop) (Z:Nat→Bool) (hm:P.follows .mixedOrders=true) (hS:S w.drew) (hR:R w.drew)
 (h:S w.drew→R w.drew→eX P .any ops Q S R Z ops.size (Array.replicate ops.size false) a w.drew):(Code.region id ops true).wp P Q a w:=
 wp_region_any hm (k9 _ _ _ _ (h hS hR))
end
section
variable{P:Program} {ops:Array Oper} {Q:Exit→Act→World→Prop} {md:Region.Mode} {S R:World→Prop} {Z:Nat→Bool} {n:Nat} {ls:Array Bool} {a:Act} {w:World}
theorem av (i:Nat) (v:Value) {o:Oper} (hi:ops[i]?=some o) (hS:S w) (hR:R w)
 (h:eX P md ops Q S R Z n (ls.setIfInBounds i true) (a.put o.dst v) w) (hy: ∀w,S w→(execOp a.eval o).run P w= .ok (.value v) w:=by intro w e;go_simp) (h1:Region.noSelect ops=true:=by kernel_rfl) (h2:Region.free md ops ls i=true:=by kernel_rfl)
 (h3:(Region.ready md ops ls).contains i=true:=by kernel_rfl) (h4:Z i=false:=by kernel_rfl) (h5: ∀c a w,Q (.panic c) (a.put o.dst v) w→Q (.panic c) a w:=by exact fun _ _ _ h=>h)
 (h6:Region.wanted o (yielded ops a.tmps)=true:=by rfl):eX P md ops Q S R Z (n+1) ls a w:=
 jZ hi h1 h2 h3 h4 h5 (Or.inl ⟨h6,hy⟩) hS (Or.inl hR) h
theorem cA (i:Nat) {o:Oper} (hi:ops[i]?=some o) (hS:S w) (hR:R w)
 (h:eX P md ops Q S R Z n (ls.setIfInBounds i true) (a.put o.dst undef) w) (h1:Region.noSelect ops=true:=by kernel_rfl) (h2:Region.free md ops ls i=true:=by kernel_rfl)
 (h3:(Region.ready md ops ls).contains i=true:=by kernel_rfl) (h4:Z i=false:=by kernel_rfl) (h5: ∀c a w,Q (.panic c) (a.put o.dst undef) w→Q (.panic c) a w:=by exact fun _ _ _ h=>h)
 (h6:Region.wanted o (yielded ops a.tmps)=false:=by rfl):eX P md ops Q S R Z (n+1) ls a w:=
 jZ hi h1 h2 h3 h4 h5 (Or.inr ⟨h6,rfl⟩) hS (Or.inl hR) h
theorem cG (i:Nat) {o:Oper} (ho:ops[i]?=some o)
 (h: ∀K':Act→World→Prop,Shut (∀a w,S w→R w→(S w→R w→eX P md ops Q S R Z n (ls.setIfInBounds i true) a w)→K' a w)→if Region.wanted o (yielded ops a.tmps)=true then Oper.wp P o a w K' Q else K' (a.put o.dst undef) w)
 (hr:Region.ready md ops ls= [i]:=by kernel_rfl):eX P md ops Q S R Z (n+1) ls a w:=aZ hr (by simp) (aD.cons ho h aD.nil)
end
theorem sS:(∀(α:Type) (l:List α) (i:Nat) (h:i<l.length),l.toArray[i]'h=l[i]'h)∧(∀(α:Type) (a:α) (l:List α) (i:Nat) (h:i+1<(a::l).length),(a::l)[i+1]=l[i]'(Nat.lt_of_succ_lt_succ h))∧(∀(α:Type) (a:α) (l:List α) (h:0<(a::l).length),(a::l)[0]=a)∧
 (∀(α:Type) (l:List α) (i:Nat) (a:α),l.toArray.setIfInBounds i a=(l.set i a).toArray)∧(∀(α:Type) (x:α) (l:List α) (a:α),(x::l).set 0 a=a::l)∧(∀(α:Type) (x:α) (l:List α) (i:Nat) (a:α),(x::l).set (i+1) a=x::l.set i a)∧(∀(a:Act) (i:Nat) (v:Value),a.put i v={a with tmps:=a.tmps.setIfInBounds i v}):=
 ⟨fun _ _ _ _=>rfl,fun _ _ _ _ _=>rfl,fun _ _ _ _=>rfl,fun _ _ _ _=>List.setIfInBounds_toArray .., fun _ _ _ _=>rfl,fun _ _ _ _ _=>rfl,fun _ _ _=>rfl⟩
abbrev i64 (x:Int):Value:= .int .i64 x
structure bP (w:World) (m:Nat) (a:Option Addr) (c:Nat) (rows:List (List Value)):Prop where
 le:rows.length≤c
 cap:c≤9223372036854775807
 cell: ∀i (h:i<rows.length),∃b o,a=some ⟨b,o,none⟩∧ ∀j (hj:j<(rows[i]).length),w.cell? ⟨b,o+i*m+j,none⟩=some (rows[i])[j]
theorem bP.keeps {w w':World} {m:Nat} {a:Option Addr} {c:Nat} {rows:List (List Value)} (h:bP w m a c rows) (e:jz w w'):bP w' m a c rows:=
 ⟨h.le,h.cap,fun i hi=>by obtain ⟨b,o,ha,hc⟩:=h.cell i hi;exact ⟨b,o,ha,fun j hj=>e _ _ (hc j hj)⟩⟩
theorem bP.ext {w w':World} {m:Nat} {a:Option Addr} {c:Nat} {rows:List (List Value)} (h:bP w m a c rows) (e:Ext w w'):bP w' m a c rows:=h.keeps e.keeps
structure cN where
 name:ByteArray
 da:Option Addr
 dc:Nat
 bU:List Int
 gF:Int
def cN.cells (b:cN):List Value:= [.string b.name,.slice b.da b.bU.length b.dc,i64 b.gF]
structure aS where
 name:ByteArray
 cd:Int
 ie:Int
 rn:Int
 rd:Int
 iH:Int
 kq:Int
 iO:Int
 lg:Int
 cf:Int
 gw:Int
 aa:Option Addr
 ac:Nat
 away:List Int
def aS.cells (l:aS):List Value:= [.string l.name,i64 l.cd,i64 l.ie,i64 l.rn,i64 l.rd,i64 l.iH,i64 l.kq,i64 l.iO,i64 l.lg,i64 l.cf,i64 l.gw,.slice l.aa l.away.length l.ac]
structure cL where
 width:Int
 aX:Int
def cL.cells (s:cL):List Value:= [i64 s.width,i64 s.aX]
structure aF where
 name:ByteArray
 cX:Int
 min:Int
 max:Int
 sa:Option Addr
 sc:Nat
 aI:List cL
 cg:Int
 cj:Int
 a_:Int
 aW:Int
 bf:Int
 bQ:Int
 bg:Int
 startTime:Int
 bA:Int
 bh:Int
 bj:Int
 az:Int
 aJ:Int
 aa:Option Addr
 ac:Nat
 away:List Int
 state:Int
 hours:Int
 output:Int
def aF.cells (u:aF):List Value:= [.string u.name,i64 u.cX,i64 u.min,i64 u.max,.slice u.sa u.aI.length u.sc,i64 u.cg,i64 u.cj,i64 u.a_,i64 u.aW,i64 u.bf,i64 u.bQ,i64 u.bg,i64 u.startTime,i64 u.bA,i64 u.bh,i64 u.bj,i64 u.az,i64 u.aJ,.slice u.aa u.away.length u.ac,i64 u.state,i64 u.hours,i64 u.output]
structure bp where
 name:ByteArray
 cX:Int
 capacity:Int
 initial:Int
 final:Int
 dI:Int
 discharge:Int
 en:Int
 ed:Int
def bp.cells (s:bp):List Value:= [.string s.name,i64 s.cX,i64 s.capacity,i64 s.initial,i64 s.final,i64 s.dI,i64 s.discharge,i64 s.en,i64 s.ed]
structure dW where
 name:ByteArray
 cX:Int
 ia:Option Addr
 ic:Nat
 imp:List Int
 ea:Option Addr
 ec:Nat
 exp:List Int
 pa:Option Addr
 pc:Nat
 aX:List Int
def dW.cells (t:dW):List Value:= [.string t.name,i64 t.cX,.slice t.ia t.imp.length t.ic,.slice t.ea t.exp.length t.ec,.slice t.pa t.aX.length t.pc]
structure bH where
 unit:Int
 up:Int
 down:Int
def bH.cells (m:bH):List Value:= [i64 m.unit,i64 m.up,i64 m.down]
structure bI where
 name:ByteArray
 la:Option Addr
 lc:Nat
 lines:List Int
 bJ:Bool
 ma:Option Addr
 mc:Nat
 moves:List bH
def bI.cells (o:bI):List Value:= [.string o.name,.slice o.la o.lines.length o.lc,.bool o.bJ,.slice o.ma o.moves.length o.mc]
structure aq where
 hours:Int
 ra:Option Addr
 rc:Nat
 az:List Int
 ba:Option Addr
 bc:Nat
 au:List cN
 la:Option Addr
 lc:Nat
 lines:List aS
 ua:Option Addr
 uc:Nat
 aj:List aF
 sa:Option Addr
 sc:Nat
 stores:List bp
 ta:Option Addr
 tc:Nat
 aN:List dW
 oa:Option Addr
 oc:Nat
 outs:List bI
def aq.cells (c:aq):List Value:= [i64 c.hours,.slice c.ra c.az.length c.rc,.slice c.ba c.au.length c.bc,.slice c.la c.lines.length c.lc,.slice c.ua c.aj.length c.uc,.slice c.sa c.stores.length c.sc,.slice c.ta c.aN.length c.tc,.slice c.oa c.outs.length c.oc]
abbrev C8 (c:aq):Array Value:= #[i64 c.hours,.slice c.ra c.az.length c.rc,.slice c.ba c.au.length c.bc,.slice c.la c.lines.length c.lc,.slice c.ua c.aj.length c.uc,.slice c.sa c.stores.length c.sc,.slice c.ta c.aN.length c.tc,.slice c.oa c.outs.length c.oc]
def fp (l:List Int):Prop:= ∀x∈l,br x
structure aT (w:World) (c:aq):Prop where
 hours:br c.hours
 az:aA w c.ra c.rc c.az
 au:bP w 3 c.ba c.bc (c.au.map cN.cells)
 cX: ∀b∈c.au,b.name.size≤maxLen∧aA w b.da b.dc b.bU∧br b.gF
 lines:bP w 12 c.la c.lc (c.lines.map aS.cells)
 line: ∀l∈c.lines,l.name.size≤maxLen∧aA w l.aa l.ac l.away∧fp [l.cd,l.ie,l.rn,l.rd,l.iH,l.kq,l.iO,l.lg,l.cf,l.gw]
 aj:bP w 22 c.ua c.uc (c.aj.map aF.cells)
 unit: ∀u∈c.aj,u.name.size≤maxLen∧aA w u.aa u.ac u.away∧bP w 2 u.sa u.sc (u.aI.map cL.cells)∧(∀s∈u.aI,fp [s.width,s.aX])∧fp [u.cX,u.min,u.max,u.cg,u.cj,u.a_,u.aW,u.bf,u.bQ,u.bg,u.startTime,u.bA,u.bh,u.bj,u.az,u.aJ,u.state,u.hours,u.output]
 stores:bP w 9 c.sa c.sc (c.stores.map bp.cells)
 store: ∀s∈c.stores,s.name.size≤maxLen∧fp [s.cX,s.capacity,s.initial,s.final,s.dI,s.discharge,s.en,s.ed]
 aN:bP w 5 c.ta c.tc (c.aN.map dW.cells)
 tie: ∀t∈c.aN,t.name.size≤maxLen∧aA w t.ia t.ic t.imp∧aA w t.ea t.ec t.exp∧aA w t.pa t.pc t.aX∧br t.cX
 outs:bP w 4 c.oa c.oc (c.outs.map bI.cells)
 out: ∀o∈c.outs,o.name.size≤maxLen∧aA w o.la o.lc o.lines∧bP w 3 o.ma o.mc (o.moves.map bH.cells)∧ ∀m∈o.moves,fp [m.unit,m.up,m.down]
theorem aT.ext {w w':World} {c:aq} (h:aT w c) (e:Ext w w'):aT w' c:=
 ⟨h.hours,h.az.ext e,h.au.ext e,fun b hb=>⟨(h.cX b hb).1,(h.cX b hb).2.1.ext e,(h.cX b hb).2.2⟩,h.lines.ext e,fun l hl=>⟨(h.line l hl).1,(h.line l hl).2.1.ext e,(h.line l hl).2.2⟩,
   h.aj.ext e,fun u hu=>⟨(h.unit u hu).1,(h.unit u hu).2.1.ext e,(h.unit u hu).2.2.1.ext e,(h.unit u hu).2.2.2⟩,h.stores.ext e,h.store,h.aN.ext e,
   fun t ht=>⟨(h.tie t ht).1,(h.tie t ht).2.1.ext e,(h.tie t ht).2.2.1.ext e,(h.tie t ht).2.2.2.1.ext e,(h.tie t ht).2.2.2.2⟩,h.outs.ext e,fun o ho=>⟨(h.out o ho).1,(h.out o ho).2.1.ext e,(h.out o ho).2.2.1.ext e,(h.out o ho).2.2.2⟩⟩
structure St where
 kind:Int
 idx:Int
 field:Int
 err:Int
def St.cells (s:St):List Value:= [i64 s.kind,i64 s.idx,i64 s.field,i64 s.err]
def St.at (s:St) (kind idx:Int):St:=if s.err=0 then⟨kind,idx,0,0⟩else s
def St.need (s:St) (ok:Bool) (field e:Int):St:=if s.err=0∧ok=false then⟨s.kind,s.idx,field,e⟩else s
def St.within (s:St) (field n least most:Int):St:=s.need (decide (least≤n)&&decide (n≤most)) field 3
def St.cX (s:St) (c:aq) (field i:Int):St:=s.need (decide (0≤i)&&decide (i<c.au.length)) field 12
def St.each (s:St) (l:List Int) (field least most:Int):St:=l.foldl (fun s n=>s.within field n least most) s
def St.dN (s:St) (c:aq) (field:Int) (l:List Int) (least most:Int):St:=(s.need (decide ((l.length:Int)=c.hours)) field 4).each l field least most
theorem St.fQ (s:St) (ok:Bool) (f e:Int) (h:s.err≠0):s.need ok f e=s:=by unfold St.need;rw [if_neg (fun h'=>h h'.1)]
theorem St.Av (s:St) (f n a b:Int) (h:s.err≠0):s.within f n a b=s:=St.fQ s _ _ _ h
theorem St.Fe (s:St) (l:List Int) (f a b:Int) (h:s.err≠0):s.each l f a b=s:=by
 unfold St.each;induction l with
 |nil=>rfl
 |cons x l ih=>rw [List.foldl_cons,St.Av s f x a b h,ih]
def wu (c:aq) (s:St):List Value:=c.cells++s.cells
abbrev cY (w:World) (K:Nat) (c:aq) (s:St):Prop:=aG w K 143 (wu c s)
def km (V:World) (K:Nat) (c:aq) (s:St) (e:Ending) (w':World):Prop:=e= .returned (.tuple #[])∧cY w' K c s∧ak K V w'
theorem ak.set {b:Nat} {w w':World} (h:ak b w w') {p:Addr} (hp:p.block=b) (v:Value):ak b w (w'.setCell p v):=
 ⟨h.os,h.tape,h.output,h.drawn,by simpa [World.setCell]using h.size,fun k hk hb=>by rw [Below.heap_setCell _ _ _ _ (by omega)];exact h.block k hk hb⟩
theorem ak.et {b o:Nat} {w w':World} {v:Value} (h:ak b w w'):ak b w (w'.setCell ⟨b,o,none⟩ v):=h.set rfl v
theorem mq {V:World} {K:Nat} {c:aq} {s:St} (h:cY V K c s):V.cell? ⟨K,8,none⟩=some (i64 s.kind)∧V.cell? ⟨K,9,none⟩=some (i64 s.idx)∧V.cell? ⟨K,10,none⟩=some (i64 s.field)∧V.cell? ⟨K,11,none⟩=some (i64 s.err)∧V.frozen? ⟨K,8,none⟩=false∧V.frozen? ⟨K,9,none⟩=false∧V.frozen? ⟨K,10,none⟩=false∧V.frozen? ⟨K,11,none⟩=false:=
 ⟨(h.cell 8).trans rfl,(h.cell 9).trans rfl,(h.cell 10).trans rfl,(h.cell 11).trans rfl,h.frozen 8,h.frozen 9,h.frozen 10,h.frozen 11⟩
theorem cF {V:World} {K:Nat} {c:aq} {s:St} (h:cY V K c s):V.cell? ⟨K,0,none⟩=some (i64 c.hours)∧V.cell? ⟨K,1,none⟩=some (.slice c.ra c.az.length c.rc)∧V.cell? ⟨K,2,none⟩=some (.slice c.ba c.au.length c.bc)∧V.cell? ⟨K,3,none⟩=some (.slice c.la c.lines.length c.lc)∧V.cell? ⟨K,4,none⟩=some (.slice c.ua c.aj.length c.uc)∧V.cell? ⟨K,5,none⟩=some (.slice c.sa c.stores.length c.sc)∧V.cell? ⟨K,6,none⟩=some (.slice c.ta c.aN.length c.tc)∧V.cell? ⟨K,7,none⟩=some (.slice c.oa c.outs.length c.oc):=
 ⟨(h.cell 0).trans rfl,(h.cell 1).trans rfl,(h.cell 2).trans rfl,(h.cell 3).trans rfl,(h.cell 4).trans rfl,(h.cell 5).trans rfl,(h.cell 6).trans rfl,(h.cell 7).trans rfl⟩
set_option maxRecDepth 100000 in
theorem bN (V:World) (K:Nat) (c:aq) (s:St) (ok:Bool) (field e:Int) (h:cY V K c s):
 Calls Tryz.prog 134 #[.pointer (some ⟨K,0,none⟩),.bool ok,i64 field,i64 e] V fun e' w'=>km V K c (s.need ok field e) e' w':=by
 obtain ⟨-,-,c10,c11,-,-,f10,f11⟩:=mq h;have HK:=ae h;clear h;by_cases h0:s.err=0
 ·have t1:(s.err==0)=true:=by simpa using h0
  cases ok with
  |true=>
   go_enter Tryz.func134,Tryz.ntmps134
   go_wp2_with fail
   refine bodyPost_end (v:= .tuple #[]) (by simp [results,Tryz.results134,go_sem]) rfl ⟨rfl,?_,ak.refl _ _⟩;unfold St.need;simp;exact HK.out
  |false=>
   have HW:Hid (cY ((V.setCell ⟨K,10,none⟩ (i64 field)).setCell ⟨K,11,none⟩ (i64 e)) K c (s.need false field e)):=by
    show cY _ _ _ _;unfold St.need;rw [if_pos ⟨h0,rfl⟩];exact (HK.out.set 10 _).set 11 _
   go_enter Tryz.func134,Tryz.ntmps134
   go_wp2_with fail
   exact bodyPost_end (v:= .tuple #[]) (by simp [results,Tryz.results134,go_sem]) rfl ⟨rfl,HW.out,(ak.refl _ _).et.et⟩
 ·have t1:(s.err==0)=false:=by simpa using h0
  have HN:=ae (St.fQ s ok field e h0);clear h0;go_enter Tryz.func134,Tryz.ntmps134
  go_wp2_with fail
  exact bodyPost_end (v:= .tuple #[]) (by simp [results,Tryz.results134,go_sem]) rfl ⟨rfl,by rw [HN.out];exact HK.out,ak.refl _ _⟩
set_option maxRecDepth 100000 in
theorem wz (V:World) (K:Nat) (c:aq) (s:St) (kind idx:Int) (h:cY V K c s):
 Calls Tryz.prog 131 #[.pointer (some ⟨K,0,none⟩),i64 kind,i64 idx] V fun e' w'=>km V K c (s.at kind idx) e' w':=by
 obtain ⟨c8,c9,c10,c11,f8,f9,f10,f11⟩:=mq h;have HK:=ae h;clear h;by_cases h0:s.err=0
 ·have t1:(s.err==0)=true:=by simpa using h0
  have HW:Hid (cY (((V.setCell ⟨K,8,none⟩ (i64 kind)).setCell ⟨K,9,none⟩ (i64 idx)).setCell ⟨K,10,none⟩ (i64 0)) K c (s.at kind idx)):=by
   show cY _ _ _ _;unfold St.at;rw [if_pos h0];have h5:=((HK.out.set 8 (i64 kind)).set 9 (i64 idx)).set 10 (i64 0);have e:((((wu c s).set 8 (i64 kind)).set 9 (i64 idx)).set 10 (i64 0))=wu c ⟨kind,idx,0,s.err⟩:=rfl;rw [e,h0]at h5;exact h5
  go_enter Tryz.func131,Tryz.ntmps131
  go_wp2_with fail
  exact bodyPost_end (v:= .tuple #[]) (by simp [results,Tryz.results131,go_sem]) rfl ⟨rfl,HW.out,(ak.refl _ _).et.et.et⟩
 ·have t1:(s.err==0)=false:=by simpa using h0
  have HN:Hid (s.at kind idx=s):=by show s.at kind idx=s;unfold St.at;rw [if_neg h0]
  clear h0;go_enter Tryz.func131,Tryz.ntmps131
  go_wp2_with fail
  exact bodyPost_end (v:= .tuple #[]) (by simp [results,Tryz.results131,go_sem]) rfl ⟨rfl,by rw [HN.out];exact HK.out,ak.refl _ _⟩
set_option maxRecDepth 100000 in
theorem bM (V:World) (K:Nat) (c:aq) (s:St) (field n least most:Int) (h:cY V K c s):
 Calls Tryz.prog 132 #[.pointer (some ⟨K,0,none⟩),i64 field,i64 n,i64 least,i64 most] V fun e' w'=>km V K c (s.within field n least most) e' w':=by
 have HC:=ae (fun ok=>bN V K c s ok field 3 h);unfold St.within;clear h;cases d1:decide (least≤n)with
 |false=>
  simp only [Bool.false_and];go_enter Tryz.func132,Tryz.ntmps132
  go_wp2_with fail
  refine (HC.out _).mono ?_;rintro e w' ⟨rfl,h1,h2⟩;go_wp2_with fail
  exact bodyPost_end (v:= .tuple #[]) (by simp [results,Tryz.results132,go_sem]) rfl ⟨rfl,h1,h2⟩
 |true=>
  simp only [Bool.true_and];go_enter Tryz.func132,Tryz.ntmps132
  go_wp2_with fail
  refine (HC.out _).mono ?_;rintro e w' ⟨rfl,h1,h2⟩;go_wp2_with fail
  exact bodyPost_end (v:= .tuple #[]) (by simp [results,Tryz.results132,go_sem]) rfl ⟨rfl,h1,h2⟩
set_option maxRecDepth 100000 in
theorem yj (V:World) (K:Nat) (c:aq) (s:St) (field i:Int) (h:cY V K c s):
 Calls Tryz.prog 138 #[.pointer (some ⟨K,0,none⟩),i64 field,i64 i] V fun e' w'=>km V K c (s.cX c field i) e' w':=by
 have HC:=ae (fun ok=>bN V K c s ok field 12 h);obtain ⟨-,-,c2,-⟩:=cF h;unfold St.cX;clear h;cases d1:decide (0≤i)with
 |false=>
  simp only [Bool.false_and];go_enter Tryz.func138,Tryz.ntmps138
  go_wp2_with fail
  refine (HC.out _).mono ?_;rintro e w' ⟨rfl,h1,h2⟩;go_wp2_with fail
  exact bodyPost_end (v:= .tuple #[]) (by simp [results,Tryz.results138,go_sem]) rfl ⟨rfl,h1,h2⟩
 |true=>
  simp only [Bool.true_and];go_enter Tryz.func138,Tryz.ntmps138
  go_wp2_with fail
  refine (HC.out _).mono ?_;rintro e w' ⟨rfl,h1,h2⟩;go_wp2_with fail
  exact bodyPost_end (v:= .tuple #[]) (by simp [results,Tryz.results138,go_sem]) rfl ⟨rfl,h1,h2⟩
def St.found (s:St) (ok:Bool) (kind idx field e:Int):St:=if s.err=0∧ok=false then⟨kind,idx,field,e⟩else s
theorem St.Db (s:St) (ok:Bool) (k i f e:Int) (h:s.err≠0):s.found ok k i f e=s:=by unfold St.found;rw [if_neg (fun h'=>h h'.1)]
abbrev KF (w:World) (K:Nat) (s:St):Prop:=aG w K 101 s.cells
def TG (V:World) (K:Nat) (s:St) (e:Ending) (w':World):Prop:=e= .returned (.tuple #[])∧KF w' K s∧ak K V w'
theorem Cj {V:World} {K:Nat} {s:St} (h:KF V K s):V.cell? ⟨K,0,none⟩=some (i64 s.kind)∧V.cell? ⟨K,1,none⟩=some (i64 s.idx)∧V.cell? ⟨K,2,none⟩=some (i64 s.field)∧V.cell? ⟨K,3,none⟩=some (i64 s.err)∧V.frozen? ⟨K,0,none⟩=false∧V.frozen? ⟨K,1,none⟩=false∧V.frozen? ⟨K,2,none⟩=false∧V.frozen? ⟨K,3,none⟩=false:=
 ⟨(h.cell 0).trans rfl,(h.cell 1).trans rfl,(h.cell 2).trans rfl,(h.cell 3).trans rfl,h.frozen 0,h.frozen 1,h.frozen 2,h.frozen 3⟩
set_option maxRecDepth 100000 in
theorem Ls (V:World) (K:Nat) (s:St) (ok:Bool) (kind idx field e:Int) (h:KF V K s):
 Calls Tryz.prog 55 #[.pointer (some ⟨K,0,none⟩),.bool ok,i64 kind,i64 idx,i64 field,i64 e] V fun e' w'=>TG V K (s.found ok kind idx field e) e' w':=by
 obtain ⟨c0,c1,c2,c3,f0,f1,f2,f3⟩:=Cj h;have HK:=ae h;clear h;by_cases h0:s.err=0
 ·have t1:(s.err==0)=true:=by simpa using h0
  cases ok with
  |true=>
   go_enter Tryz.func55,Tryz.ntmps55
   go_wp2_with fail
   refine bodyPost_end (v:= .tuple #[]) (by simp [results,Tryz.results55,go_sem]) rfl ⟨rfl,?_,ak.refl _ _⟩;unfold St.found;simp;exact HK.out
  |false=>
   have HW:Hid (KF ((((V.setCell ⟨K,0,none⟩ (i64 kind)).setCell ⟨K,1,none⟩ (i64 idx)).setCell ⟨K,2,none⟩ (i64 field)).setCell ⟨K,3,none⟩ (i64 e)) K (s.found false kind idx field e)):=by
    show KF _ _ _;unfold St.found;rw [if_pos ⟨h0,rfl⟩];exact (((HK.out.set 0 _).set 1 _).set 2 _).set 3 _
   go_enter Tryz.func55,Tryz.ntmps55
   go_wp2_with fail
   exact bodyPost_end (v:= .tuple #[]) (by simp [results,Tryz.results55,go_sem]) rfl ⟨rfl,HW.out,(ak.refl _ _).et.et.et.et⟩
 ·have t1:(s.err==0)=false:=by simpa using h0
  have HN:=ae (St.Db s ok kind idx field e h0);clear h0;go_enter Tryz.func55,Tryz.ntmps55
  go_wp2_with fail
  exact bodyPost_end (v:= .tuple #[]) (by simp [results,Tryz.results55,go_sem]) rfl ⟨rfl,by rw [HN.out];exact HK.out,ak.refl _ _⟩
def aY (low high:Int) (l:List Int):Bool:=l.all fun x=>decide (low≤x)&&decide (x≤high)
theorem Dc {low high:Int} {l:List Int} (h: ∀j,j<l.length→low≤eF l j∧eF l j≤high):aY low high l=true:=by
 unfold aY;rw [List.all_eq_true];intro x hx;obtain ⟨i,hi,rfl⟩:=List.getElem_of_mem hx;have:=h i hi;rw [dM hi]at this;simp [this.1,this.2]
theorem Aw {low high:Int} {l:List Int} {j:Nat} (hj:j<l.length) (h: ¬(low≤eF l j∧eF l j≤high)):aY low high l=false:=by
 unfold aY;rw [List.all_eq_false];refine ⟨l[j],List.getElem_mem hj,?_⟩;rw [dM hj]at h;simpa using h
set_option maxRecDepth 100000 in
theorem gU (w:World) (low high:Int) (a:Option Addr) (c:Nat) (l:List Int) (h:aA w a c l):
 Calls Tryz.prog 56 #[i64 low,i64 high,.slice a l.length c] w fun e w'=>e= .returned (.bool (aY low high l))∧w'=w:=by
 have hle:=h.le;have di:=h.cap
 have HL:=ae h;clear h;go_enter Tryz.func56,Tryz.ntmps56
 go_wp2_with fail
 go_loopw [7] (fun ii wr=> ∃i:Nat,i≤l.length∧wr=w∧(∀j,j<i→low≤eF l j∧eF l j≤high)∧ii= .int .i64 i) (fun ii _=>l.length-(intOf ii).toNat)
 case atStart=>exact ⟨0,Nat.zero_le _,rfl,fun j hj=>absurd hj (Nat.not_lt_zero _),rfl⟩
 case round=>
  obtain ⟨i,hi,hw,hA,rfl⟩:=hrel;subst hw;by_cases hlt:i<l.length
  ·obtain ⟨b,o,rfl,c0⟩:=HL.out.cell i hlt
   rw [←dM hlt]at c0;have HA:=ae hA;obtain ⟨x,hx⟩: ∃x,x=eF l i:=⟨_,rfl⟩;rw [←hx]at c0;have HX:=ae hx;have fM:(0:Int)≤(i:Int):=by omega
   have fH:(i:Int)<(l.length:Int):=by omega
   have gN: ¬(low≤x∧x≤high)→aY low high l=false:=fun hn=>Aw hlt (by rw [←HX.out];exact hn)
   have sT:low≤x∧x≤high→ ∀j,j<i+1→low≤eF l j∧eF l j≤high:=fun hg j hj=>by
    by_cases rF:j=i
    ·subst rF;rw [←HX.out];exact hg
    ·exact HA.out j (by omega)
   clear hA hx;cases q1:decide (x<low)with
   |true=>
    have HB:=ae (gN (by simp at q1;omega));clear gN sT;go_wp2_with fail
    go_ret;exact ⟨by rw [HB.out];rfl,rfl⟩
   |false=>
    cases q2:decide (high<x)with
    |true=>
     have HB:=ae (gN (by simp at q2;omega));clear gN sT;go_wp2_with fail
     go_ret;exact ⟨by rw [HB.out];rfl,rfl⟩
    |false=>
     have HG:=ae (sT (by simp at q1 q2;omega));clear gN sT;go_wp2_with fail
     exact ⟨⟨i+1,by omega,by first|trivial|rfl,HG.out,by go_num⟩,by simp only [intOf];omega⟩
  ·have HF:=ae (Dc (low:=low) (high:=high) (l:=l) (fun j hj=>hA j (by omega)))
   clear hA;go_wp2_with fail
   go_ret;exact ⟨by rw [HF.out];rfl,rfl⟩
def gG (l:List Int):Bool:=(List.range l.length).all fun j=>j==0||decide (eF l (j-1)<eF l j)
theorem jB (l:List Int):gG l=true↔ ∀j,1≤j→j<l.length→eF l (j-1)<eF l j:=by
 unfold gG;rw [List.all_eq_true];constructor
 ·intro h j h1 h2
  have:=h j (List.mem_range.2 h2);simp only [Bool.or_eq_true,beq_iff_eq,decide_eq_true_eq]at this;rcases this with h|h
  ·omega
  ·exact h
 ·intro h j hj
  simp only [Bool.or_eq_true,beq_iff_eq,decide_eq_true_eq];by_cases h0:j=0
  ·exact Or.inl h0
  ·exact Or.inr (h j (by omega) (List.mem_range.1 hj))
def bq (n d:Int):Bool:=decide (1≤d)&&decide (d≤1048576)&&decide (-1048576≤n)&&decide (n≤1048576)
def St.away (s:St) (c:aq) (field:Int) (l:List Int):St:=(s.each l field 0 (IntKind.i64.wrap (c.hours-1))).need (gG l) field 11
theorem St.vr (s:St) (l:List Int) (f a b:Int) (i:Nat) (h:i<l.length):s.each (l.take (i+1)) f a b=(s.each (l.take i) f a b).within f l[i] a b:=by
 unfold St.each;rw [List.take_succ_eq_append_getElem h,List.foldl_append];rfl
theorem St.vt (s:St) (l:List Int) (f a b:Int) (i:Nat) (h:(s.each (l.take i) f a b).err≠0):s.each (l.take i) f a b=s.each l f a b:=by
 have h1:s.each l f a b=(s.each (l.take i) f a b).each (l.drop i) f a b:=by
  unfold St.each;rw [←List.foldl_append,List.take_append_drop]
 rw [h1,St.Fe _ _ _ _ _ h]
set_option maxRecDepth 100000 in
theorem ir (w:World) (n d:Int):
 Calls Tryz.prog 139 #[.agg #[i64 n,i64 d]] w fun e w'=>e= .returned (.bool (bq n d))∧Ext w w':=by
 unfold bq;cases d1:decide (1≤d)with
 |false=>
  go_enter Tryz.func139,Tryz.ntmps139
  go_wp2_with fail
  go_ret;exact ⟨by simp,(Ext.refl _).alloc _⟩
 |true=>
  cases d2:decide (d≤1048576)with
  |false=>
   go_enter Tryz.func139,Tryz.ntmps139
   go_wp2_with fail
   go_ret;exact ⟨by simp,(Ext.refl _).alloc _⟩
  |true=>
   cases d3:decide (-1048576≤n)with
   |false=>
    go_enter Tryz.func139,Tryz.ntmps139
    go_wp2_with fail
    go_ret;exact ⟨by simp,(Ext.refl _).alloc _⟩
   |true=>
    go_enter Tryz.func139,Tryz.ntmps139
    go_wp2_with fail
    go_ret;exact ⟨by simp,(Ext.refl _).alloc _⟩
set_option maxRecDepth 100000 in
theorem lh (w:World) (a:Option Addr) (c:Nat) (l:List Int) (h:aA w a c l):
 Calls Tryz.prog 146 #[.slice a l.length c] w fun e w'=>e= .returned (.bool (gG l))∧Ext w w':=by
 have hle:=h.le;have di:=h.cap
 have HL:=ae h;clear h;go_enter Tryz.func146,Tryz.ntmps146
 go_wp2_with fail
 go_loopw [3] (fun ii wr=> ∃i:Nat,1≤i∧(i≤l.length∨i=1)∧Ext w wr∧(∀j,1≤j→j<i→eF l (j-1)<eF l j)∧ii= .int .i64 i) (fun ii _=>l.length-(intOf ii).toNat)
 case atStart=>exact ⟨1,Nat.le_refl _,Or.inr rfl,Ext.refl _,fun j h1 h2=>by omega,rfl⟩
 case round=>
  obtain ⟨i,h1,hi,hE,hA,rfl⟩:=hrel;by_cases hlt:i<l.length
  ·obtain ⟨b,o,rfl,c0⟩:=(HL.out.ext hE).cell i hlt
   obtain ⟨b',o',e',c1⟩:=(HL.out.ext hE).cell (i-1) (by omega);cases e'
   obtain ⟨p,rfl⟩: ∃p,i=p+1:=⟨i-1,by omega⟩;simp only [Nat.add_sub_cancel]at c1;have e0:eF l (p+1)=l[p+1]:=dM (by omega);have e1:eF l p=l[p]:=dM (by omega);rw [←e0]at c0;rw [←e1]at c1
   have hw:IntKind.i64.wrap (((p+1:Nat):Int)-1)=(p:Int):=by rw [IntKind.wrap_i64];omega
   have HA:=ae hA;have HE:=ae hE
   obtain ⟨x,hx⟩: ∃x,x=eF l (p+1):=⟨_,rfl⟩;obtain ⟨y,hy⟩: ∃y,y=eF l p:=⟨_,rfl⟩;rw [←hx]at c0;rw [←hy]at c1
   have HX:=ae hx;have HY:=ae hy
   have fM:(0:Int)≤((p+1:Nat):Int):=by omega
   have fH:((p+1:Nat):Int)<(l.length:Int):=by omega
   have Lt:(0:Int)≤(p:Int):=by omega
   have Lu:(p:Int)<(l.length:Int):=by omega
   have I5:(0:Int)≤(p:Int)+1:=by omega
   have Lv:(p:Int)+1<(l.length:Int):=by omega
   have O0: ¬((p:Int)+1<0):=by omega
   have hw2:IntKind.i64.wrap (p:Int)=(p:Int):=by rw [IntKind.wrap_i64];omega
   have k0:wr.drew.cell? ⟨b,o+(p+1),none⟩=some (.int .i64 x):=c0;have k1:wr.drew.cell? ⟨b,o+p,none⟩=some (.int .i64 y):=c1;clear hA hE hx hy e0 e1 c0 c1;go_wp2_with fail
   refine ay (fun w'=>w'.cell? ⟨b,o+(p+1),none⟩=some (.int .i64 x)∧w'.cell? ⟨b,o+p,none⟩=some (.int .i64 y)) (fun w'=>True) (fun i=>false) (by kernel_rfl) (⟨k0,k1⟩) (trivial) (fun ar ah=> ?_);refine av 0 (.slice (some ⟨b,o,none⟩) l.length c) rfl ar ah ?_;simp only [sS];refine av 1 (.int .i64 ((p+1:Nat):Int)) rfl ar ah ?_;simp only [sS];refine av 2 (.pointer (some ⟨b,o+(p+1),none⟩)) rfl ar ah ?_;simp only [sS];refine av 3 (.int .i64 x) rfl ar ah ?_;simp only [sS];refine av 4 (.slice (some ⟨b,o,none⟩) l.length c) rfl ar ah ?_;simp only [sS];refine av 5 (.int .i64 ((p+1:Nat):Int)) rfl ar ah ?_;simp only [sS];refine av 6 (.int .i64 (p:Int)) rfl ar ah ?_;simp only [sS];refine av 7 (.pointer (some ⟨b,o+p,none⟩)) rfl ar ah ?_;simp only [sS];refine av 8 (.int .i64 y) rfl ar ah ?_;simp only [sS];refine av 9 (.bool (decide (x≤y))) rfl ar ah ?_;simp only [sS];refine ax (by kernel_rfl) ?_ _;clear ar ah;by_cases sU:x≤y
   ·have t:decide (x≤y)=true:=by simpa using sU
    have hf:gG l=false:=by
     cases hq:gG l with
     |false=>rfl
     |true=>
      have:=(jB l).1 hq (p+1) (by omega) hlt;simp only [Nat.add_sub_cancel]at this;rw [←HX.out,←HY.out]at this;omega
    go_wp2_with fail
    go_ret;exact ⟨by rw [hf];rfl,HE.out.drew⟩
   ·have t:decide (x≤y)=false:=by simpa using sU
    have hn: ∀j,1≤j→j<p+1+1→eF l (j-1)<eF l j:=by
     intro j a1 a2;by_cases hj:j=p+1
     ·subst hj
      simp only [Nat.add_sub_cancel];rw [←HX.out,←HY.out];omega
     ·exact HA.out j a1 (by omega)
    have HN:=ae hn;clear hn k0 k1;go_wp2_with fail
    exact ⟨⟨p+1+1,by omega,Or.inl (by omega),HE.out.drew,HN.out,by go_num⟩,by simp only [intOf];omega⟩
  ·have ht:gG l=true:=(jB l).2 (fun j a1 a2=>hA j a1 (by omega))
   clear hA;go_wp2_with fail
   go_ret;exact ⟨by rw [ht];rfl,hE⟩
set_option maxRecDepth 100000 in
theorem kC (w0 V:World) (K:Nat) (c:aq) (s:St) (field least most:Int) (a:Option Addr) (cc:Nat) (l:List Int) (hK:w0.heap.size≤K) (hV:Ext w0 V) (hl:aA w0 a cc l) (h:cY V K c s):
 Calls Tryz.prog 133 #[.pointer (some ⟨K,0,none⟩),i64 field,.slice a l.length cc,i64 least,i64 most] V fun e' w'=>km V K c (s.dN c field l least most) e' w':=by
 have hle:=hl.le;have di:=hl.cap
 have HL:=ae hl;have HV:=ae hV
 have hq:((l.length:Int)==c.hours)=decide ((l.length:Int)=c.hours):=by rw [Bool.eq_iff_iff];simp
 have hC:=bN V K c s (decide ((l.length:Int)=c.hours)) field 4 h;obtain ⟨c0,-⟩:=cF h;unfold St.dN;obtain ⟨s1,hs1⟩: ∃s1,s.need (decide ((l.length:Int)=c.hours)) field 4=s1:=⟨_,rfl⟩;rw [hs1]at hC⊢;have HC:=ae hC;clear h hl hV hs1 hC;go_enter Tryz.func133,Tryz.ntmps133
 go_wp2_with fail
 first
  |refine HC.out.mono ?_
  |(rw [hq];refine HC.out.mono ?_)
 rintro e w1 ⟨rfl,oJ,hx1⟩;have H1:=ae oJ;have X1:=ae hx1
 clear oJ hx1 c0 HC hq;go_wp2_with fail
 go_loopw [25] (fun ii wr=> ∃i:Nat,i≤l.length∧cY wr K c (s1.each (l.take i) field least most)∧ak K V wr∧ii= .int .i64 i) (fun ii _=>l.length-(intOf ii).toNat)
 case atStart=>exact ⟨0,Nat.zero_le _,H1.out,X1.out,rfl⟩
 case round=>
  obtain ⟨i,hi,hk,hx,rfl⟩:=hrel;clear H1 X1;by_cases hlt:i<l.length
  ·have hE:=hx.ext HV.out hK
   obtain ⟨b,o,rfl,cl⟩:=(HL.out.ext hE).cell i hlt;obtain ⟨-,-,-,c11,-⟩:=mq hk;have HN:=ae (St.vr s1 l field least most i hlt);have hst:=St.vt s1 l field least most i;generalize s1.each (l.take i) field least most=s2 at*;have HX:=ae hx;have HW:=ae (bM wr K c s2 field l[i] least most hk);have pS:=ae hk;have fM:(0:Int)≤(i:Int):=by omega
   have fH:(i:Int)<(l.length:Int):=by omega
   clear hx hE hk;by_cases h0:s2.err=0
   ·have t1:(s2.err !=0)=false:=by simpa using h0
    clear hst h0;go_wp2_with fail
    refine HW.out.mono ?_;rintro e w2 ⟨rfl,hk2,hx2⟩;go_wp2_with fail
    exact ⟨⟨i+1,by omega,by rw [HN.out];exact hk2,HX.out.trans hx2,by go_num⟩,by simp only [intOf];omega⟩
   ·have t1:(s2.err !=0)=true:=by simpa using h0
    have HST:=ae (hst h0);clear hst h0;go_wp2_with fail
    exact bodyPost_ret (v:= .tuple #[]) (by simp [results,Tryz.results133,go_sem]) rfl ⟨rfl,by rw [←HST.out];exact pS.out,HX.out⟩
  ·obtain rfl:i=l.length:=by omega
   rw [List.take_length]at hk;go_wp2_with fail
   exact bodyPost_end (v:= .tuple #[]) (by simp [results,Tryz.results133,go_sem]) rfl ⟨rfl,hk,hx⟩
set_option maxRecDepth 100000 in
theorem Ff (w0 V:World) (K:Nat) (c:aq) (s:St) (field:Int) (a:Option Addr) (cc:Nat) (l:List Int) (hK:w0.heap.size≤K) (hV:Ext w0 V) (hl:aA w0 a cc l) (h:cY V K c s):
 Calls Tryz.prog 140 #[.pointer (some ⟨K,0,none⟩),i64 field,.slice a l.length cc] V fun e' w'=>km V K c (s.away c field l) e' w':=by
 have hle:=hl.le;have di:=hl.cap
 have HL:=ae hl;have HV:=ae hV
 unfold St.away;have HH:=ae h;obtain ⟨H1,TI⟩: ∃H1,IntKind.i64.wrap (c.hours-1)=H1:=⟨_,rfl⟩;rw [TI];clear h hl hV;go_enter Tryz.func140,Tryz.ntmps140
 go_wp2_with fail
 go_loopw [10] (fun ii wr=> ∃i:Nat,i≤l.length∧cY wr K c (s.each (l.take i) field 0 H1)∧ak K V wr∧ii= .int .i64 i) (fun ii _=>l.length-(intOf ii).toNat)
 case atStart=>exact ⟨0,Nat.zero_le _,HH.out,ak.refl _ _,rfl⟩
 case round=>
  obtain ⟨i,hi,hk,hx,rfl⟩:=hrel;clear HH;by_cases hlt:i<l.length
  ·have hE:=hx.ext HV.out hK
   obtain ⟨b,o,rfl,cl⟩:=(HL.out.ext hE).cell i hlt;obtain ⟨-,-,-,c11,-⟩:=mq hk;obtain ⟨c0,-⟩:=cF hk;have HN:=ae (St.vr s l field 0 H1 i hlt);have hst:=St.vt s l field 0 H1 i;generalize s.each (l.take i) field 0 H1=s2 at*;have HX:=ae hx;have HW:=ae (bM wr K c s2 field l[i] 0 H1 hk);have pS:=ae hk;have fM:(0:Int)≤(i:Int):=by omega
   have fH:(i:Int)<(l.length:Int):=by omega
   clear hx hE hk;by_cases h0:s2.err=0
   ·have t1:(s2.err !=0)=false:=by simpa using h0
    clear hst h0;go_wp2_with fail
    refine HW.out.mono ?_;rintro e w2 ⟨rfl,hk2,hx2⟩;go_wp2_with fail
    exact ⟨⟨i+1,by omega,by rw [HN.out];exact hk2,HX.out.trans hx2,by go_num⟩,by simp only [intOf];omega⟩
   ·have t1:(s2.err !=0)=true:=by simpa using h0
    have Xi:=hst h0;have yl:(s.each l field 0 H1).need (gG l) field 11=s2:=by rw [←Xi];exact St.fQ _ _ _ _ h0
    have HST:=ae yl;clear hst h0 Xi yl;go_wp2_with fail
    exact bodyPost_ret (v:= .tuple #[]) (by simp [results,Tryz.results140,go_sem]) rfl ⟨rfl,by rw [HST.out];exact pS.out,HX.out⟩
  ·obtain rfl:i=l.length:=by omega
   rw [List.take_length]at hk;have hE:=hx.ext HV.out hK;have HA:=ae (lh wr a cc l (HL.out.ext hE));have HX:=ae hx;have pS:=ae hk
   have aaj:=hk.lt;clear hk hx hE;go_wp2_with fail
   refine HA.out.mono ?_;rintro e w2 ⟨rfl,x2⟩;have HC:=ae (bN w2 K c (s.each l field 0 H1) (gG l) field 11 (pS.out.ext x2));go_wp2_with fail
   refine HC.out.mono ?_;rintro e w3 ⟨rfl,hk3,hx3⟩;go_wp2_with fail
   exact bodyPost_end (v:= .tuple #[]) (by simp [results,Tryz.results140,go_sem]) rfl ⟨rfl,hk3,HX.out.trans ((x2.but K).trans hx3)⟩
set_option maxRecDepth 100000 in
theorem om (w:World) (a:Option Addr) (c:Nat) (l:List Int) (h:aA w a c l):
 Calls Tryz.prog 102 #[.slice a l.length c] w fun e w'=>e= .returned (.bool (gG l))∧Ext w w':=by
 have hle:=h.le;have di:=h.cap
 have HL:=ae h;clear h;go_enter Tryz.func102,Tryz.ntmps102
 go_wp2_with fail
 go_loopw [3] (fun ii wr=> ∃i:Nat,1≤i∧(i≤l.length∨i=1)∧Ext w wr∧(∀j,1≤j→j<i→eF l (j-1)<eF l j)∧ii= .int .i64 i) (fun ii _=>l.length-(intOf ii).toNat)
 case atStart=>exact ⟨1,Nat.le_refl _,Or.inr rfl,Ext.refl _,fun j h1 h2=>by omega,rfl⟩
 case round=>
  obtain ⟨i,h1,hi,hE,hA,rfl⟩:=hrel;by_cases hlt:i<l.length
  ·obtain ⟨b,o,rfl,c0⟩:=(HL.out.ext hE).cell i hlt
   obtain ⟨b',o',e',c1⟩:=(HL.out.ext hE).cell (i-1) (by omega);cases e'
   obtain ⟨p,rfl⟩: ∃p,i=p+1:=⟨i-1,by omega⟩;simp only [Nat.add_sub_cancel]at c1;have e0:eF l (p+1)=l[p+1]:=dM (by omega);have e1:eF l p=l[p]:=dM (by omega);rw [←e0]at c0;rw [←e1]at c1
   have hw:IntKind.i64.wrap (((p+1:Nat):Int)-1)=(p:Int):=by rw [IntKind.wrap_i64];omega
   have HA:=ae hA;have HE:=ae hE
   obtain ⟨x,hx⟩: ∃x,x=eF l (p+1):=⟨_,rfl⟩;obtain ⟨y,hy⟩: ∃y,y=eF l p:=⟨_,rfl⟩;rw [←hx]at c0;rw [←hy]at c1
   have HX:=ae hx;have HY:=ae hy
   have fM:(0:Int)≤((p+1:Nat):Int):=by omega
   have fH:((p+1:Nat):Int)<(l.length:Int):=by omega
   have Lt:(0:Int)≤(p:Int):=by omega
   have Lu:(p:Int)<(l.length:Int):=by omega
   have I5:(0:Int)≤(p:Int)+1:=by omega
   have Lv:(p:Int)+1<(l.length:Int):=by omega
   have O0: ¬((p:Int)+1<0):=by omega
   have hw2:IntKind.i64.wrap (p:Int)=(p:Int):=by rw [IntKind.wrap_i64];omega
   have k0:wr.drew.cell? ⟨b,o+(p+1),none⟩=some (.int .i64 x):=c0;have k1:wr.drew.cell? ⟨b,o+p,none⟩=some (.int .i64 y):=c1;clear hA hE hx hy e0 e1 c0 c1;go_wp2_with fail
   refine ay (fun w'=>w'.cell? ⟨b,o+(p+1),none⟩=some (.int .i64 x)∧w'.cell? ⟨b,o+p,none⟩=some (.int .i64 y)) (fun w'=>True) (fun i=>false) (by kernel_rfl) (⟨k0,k1⟩) (trivial) (fun ar ah=> ?_);refine av 0 (.slice (some ⟨b,o,none⟩) l.length c) rfl ar ah ?_;simp only [sS];refine av 1 (.int .i64 ((p+1:Nat):Int)) rfl ar ah ?_;simp only [sS];refine av 2 (.pointer (some ⟨b,o+(p+1),none⟩)) rfl ar ah ?_;simp only [sS];refine av 3 (.int .i64 x) rfl ar ah ?_;simp only [sS];refine av 4 (.slice (some ⟨b,o,none⟩) l.length c) rfl ar ah ?_;simp only [sS];refine av 5 (.int .i64 ((p+1:Nat):Int)) rfl ar ah ?_;simp only [sS];refine av 6 (.int .i64 (p:Int)) rfl ar ah ?_;simp only [sS];refine av 7 (.pointer (some ⟨b,o+p,none⟩)) rfl ar ah ?_;simp only [sS];refine av 8 (.int .i64 y) rfl ar ah ?_;simp only [sS];refine av 9 (.bool (decide (x≤y))) rfl ar ah ?_;simp only [sS];refine ax (by kernel_rfl) ?_ _;clear ar ah;by_cases sU:x≤y
   ·have t:decide (x≤y)=true:=by simpa using sU
    have hf:gG l=false:=by
     cases hq:gG l with
     |false=>rfl
     |true=>
      have:=(jB l).1 hq (p+1) (by omega) hlt;simp only [Nat.add_sub_cancel]at this;rw [←HX.out,←HY.out]at this;omega
    go_wp2_with fail
    go_ret;exact ⟨by rw [hf];rfl,HE.out.drew⟩
   ·have t:decide (x≤y)=false:=by simpa using sU
    have hn: ∀j,1≤j→j<p+1+1→eF l (j-1)<eF l j:=by
     intro j a1 a2;by_cases hj:j=p+1
     ·subst hj
      simp only [Nat.add_sub_cancel];rw [←HX.out,←HY.out];omega
     ·exact HA.out j a1 (by omega)
    have HN:=ae hn;clear hn k0 k1;go_wp2_with fail
    exact ⟨⟨p+1+1,by omega,Or.inl (by omega),HE.out.drew,HN.out,by go_num⟩,by simp only [intOf];omega⟩
  ·have ht:gG l=true:=(jB l).2 (fun j a1 a2=>hA j a1 (by omega))
   clear hA;go_wp2_with fail
   go_ret;exact ⟨by rw [ht];rfl,hE⟩
def hasB (l:List Int) (v:Int):Bool:=l.any fun x=>x==v
theorem oQ (l:List Int) (v:Int):hasB l v=true↔ ∃i,i<l.length∧eF l i=v:=by
 unfold hasB;rw [List.any_eq_true];constructor
 ·rintro ⟨x,hx,e⟩
  obtain ⟨i,hi,rfl⟩:=List.getElem_of_mem hx;exact ⟨i,hi,by rw [dM hi];simpa using e⟩
 ·rintro ⟨i,hi,e⟩
  exact ⟨l[i],List.getElem_mem hi,by rw [dM hi]at e;simpa using e⟩
theorem pZ (l:List Int) (v:Int) (h: ∀j,j<l.length→eF l j≠v):hasB l v=false:=by
 cases hq:hasB l v with
 |false=>rfl
 |true=>
  obtain ⟨i,hi,e⟩:=(oQ l v).1 hq;exact absurd e (h i hi)
set_option maxRecDepth 100000 in
theorem Fg (w:World) (a:Option Addr) (c:Nat) (l:List Int) (v:Int) (h:aA w a c l):
 Calls Tryz.prog 150 #[.slice a l.length c,i64 v] w fun e w'=> ∃r:Int,e= .returned (i64 r)∧decide (0≤r)=hasB l v∧w'=w:=by
 have hle:=h.le;have di:=h.cap
 have HL:=ae h;clear h;go_enter Tryz.func150,Tryz.ntmps150
 go_wp2_with fail
 go_loopw [8] (fun ii wr=> ∃i:Nat,i≤l.length∧wr=w∧(∀j,j<i→eF l j≠v)∧ii= .int .i64 i) (fun ii _=>l.length-(intOf ii).toNat)
 case atStart=>exact ⟨0,Nat.zero_le _,rfl,fun j hj=>absurd hj (Nat.not_lt_zero _),rfl⟩
 case round=>
  obtain ⟨i,hi,hw,hA,rfl⟩:=hrel;subst hw;by_cases hlt:i<l.length
  ·obtain ⟨b,o,rfl,c0⟩:=HL.out.cell i hlt
   rw [←dM hlt]at c0;have HA:=ae hA;obtain ⟨x,hx⟩: ∃x,x=eF l i:=⟨_,rfl⟩;rw [←hx]at c0;have HX:=ae hx;have fM:(0:Int)≤(i:Int):=by omega
   have fH:(i:Int)<(l.length:Int):=by omega
   clear hA hx;by_cases lL:x=v
   ·have t:(v==x)=true:=by rw [lL];simp
    have hh:decide ((0:Int)≤(i:Int))=hasB l v:=by
     rw [(oQ l v).2 ⟨i,hlt,by rw [←HX.out];exact lL⟩];simp
    have HH:=ae hh;clear hh lL;go_wp2_with fail
    go_ret;exact ⟨_,rfl,HH.out,rfl⟩
   ·have t:(v==x)=false:=by simpa using fun e=>lL e.symm
    have hn: ∀j,j<i+1→eF l j≠v:=fun j hj=>by
     by_cases rF:j=i
     ·subst rF;rw [←HX.out];exact lL
     ·exact HA.out j (by omega)
    have HN:=ae hn;clear hn lL;go_wp2_with fail
    exact ⟨⟨i+1,by omega,by first|trivial|rfl,HN.out,by go_num⟩,by simp only [intOf];omega⟩
  ·have hf:=pZ l v (fun j hj=>hA j (by omega))
   have HF:=ae hf;clear hA hf;go_wp2_with fail
   go_ret;exact ⟨_,rfl,by rw [HF.out];rfl,rfl⟩
set_option maxRecDepth 100000 in
theorem j1 (w:World) (a:Option Addr) (c:Nat) (l:List Int) (v:Int) (h:aA w a c l):
 Calls Tryz.prog 87 #[.slice a l.length c,i64 v] w fun e w'=>e= .returned (.bool (hasB l v))∧w'=w:=by
 have HI:=ae (Fg w a c l v h);clear h;go_enter Tryz.func87,Tryz.ntmps87
 go_wp2_with fail
 refine HI.out.mono ?_;rintro e w1 ⟨r,rfl,hr,rfl⟩;go_wp2_with fail
 go_ret;exact ⟨by rw [←hr];rfl,rfl⟩
set_option maxRecDepth 100000 in
theorem wA (w:World) (a:Option Addr) (c:Nat) (l:List Int) (v:Int) (h:aA w a c l):
 Calls Tryz.prog 63 #[.slice a l.length c,i64 v] w fun e w'=>e= .returned (.bool (hasB l v))∧w'=w:=by
 have hle:=h.le;have di:=h.cap
 have HL:=ae h;clear h;go_enter Tryz.func63,Tryz.ntmps63
 go_wp2_with fail
 go_loopw [5] (fun ii wr=> ∃i:Nat,i≤l.length∧wr=w∧(∀j,j<i→eF l j≠v)∧ii= .int .i64 i) (fun ii _=>l.length-(intOf ii).toNat)
 case atStart=>exact ⟨0,Nat.zero_le _,rfl,fun j hj=>absurd hj (Nat.not_lt_zero _),rfl⟩
 case round=>
  obtain ⟨i,hi,hw,hA,rfl⟩:=hrel;subst hw;by_cases hlt:i<l.length
  ·obtain ⟨b,o,rfl,c0⟩:=HL.out.cell i hlt
   rw [←dM hlt]at c0;have HA:=ae hA;obtain ⟨x,hx⟩: ∃x,x=eF l i:=⟨_,rfl⟩;rw [←hx]at c0;have HX:=ae hx;have fM:(0:Int)≤(i:Int):=by omega
   have fH:(i:Int)<(l.length:Int):=by omega
   clear hA hx;by_cases lL:x=v
   ·have t:(x==v)=true:=by rw [lL];simp
    have HH:=ae ((oQ l v).2 ⟨i,hlt,by rw [←HX.out];exact lL⟩);clear lL;go_wp2_with fail
    go_ret;exact ⟨by rw [HH.out];rfl,rfl⟩
   ·have t:(x==v)=false:=by simpa using lL
    have hn: ∀j,j<i+1→eF l j≠v:=fun j hj=>by
     by_cases rF:j=i
     ·subst rF;rw [←HX.out];exact lL
     ·exact HA.out j (by omega)
    have HN:=ae hn;clear hn lL;go_wp2_with fail
    exact ⟨⟨i+1,by omega,by first|trivial|rfl,HN.out,by go_num⟩,by simp only [intOf];omega⟩
  ·have HF:=ae (pZ l v (fun j hj=>hA j (by omega)))
   clear hA;go_wp2_with fail
   go_ret;exact ⟨by rw [HF.out];rfl,rfl⟩
set_option maxRecDepth 100000 in
theorem Fh (w:World) (a:Option Addr) (c:Nat) (l:List Int) (v:Int) (h:aA w a c l):
 Calls Tryz.prog 123 #[.slice a l.length c,i64 v] w fun e w'=>e= .returned (.bool (hasB l v))∧w'=w:=by
 have hle:=h.le;have di:=h.cap
 have HL:=ae h;clear h;go_enter Tryz.func123,Tryz.ntmps123
 go_wp2_with fail
 go_loopw [5] (fun ii wr=> ∃i:Nat,i≤l.length∧wr=w∧(∀j,j<i→eF l j≠v)∧ii= .int .i64 i) (fun ii _=>l.length-(intOf ii).toNat)
 case atStart=>exact ⟨0,Nat.zero_le _,rfl,fun j hj=>absurd hj (Nat.not_lt_zero _),rfl⟩
 case round=>
  obtain ⟨i,hi,hw,hA,rfl⟩:=hrel;subst hw;by_cases hlt:i<l.length
  ·obtain ⟨b,o,rfl,c0⟩:=HL.out.cell i hlt
   rw [←dM hlt]at c0;have HA:=ae hA;obtain ⟨x,hx⟩: ∃x,x=eF l i:=⟨_,rfl⟩;rw [←hx]at c0;have HX:=ae hx;have fM:(0:Int)≤(i:Int):=by omega
   have fH:(i:Int)<(l.length:Int):=by omega
   clear hA hx;by_cases lL:x=v
   ·have t:(x==v)=true:=by rw [lL];simp
    have HH:=ae ((oQ l v).2 ⟨i,hlt,by rw [←HX.out];exact lL⟩);clear lL;go_wp2_with fail
    go_ret;exact ⟨by rw [HH.out];rfl,rfl⟩
   ·have t:(x==v)=false:=by simpa using lL
    have hn: ∀j,j<i+1→eF l j≠v:=fun j hj=>by
     by_cases rF:j=i
     ·subst rF;rw [←HX.out];exact lL
     ·exact HA.out j (by omega)
    have HN:=ae hn;clear hn lL;go_wp2_with fail
    exact ⟨⟨i+1,by omega,by first|trivial|rfl,HN.out,by go_num⟩,by simp only [intOf];omega⟩
  ·have HF:=ae (pZ l v (fun j hj=>hA j (by omega)))
   clear hA;go_wp2_with fail
   go_ret;exact ⟨by rw [HF.out];rfl,rfl⟩
end Go.Proofs.YtkpngkdgphojlaaGreat
