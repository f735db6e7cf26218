/- Texts of the proof. -/
import Derived.Test.YtkpngkdgphojlaaGreatCd15
import Derived.Test.YtkpngkdgphojlaaGreatCd36
set_option linter.all false
namespace Go.Proofs.YtkpngkdgphojlaaGreat
open Go.Proofs.Tryz
open Go.RowKit
def tM (w:World) (B:Nat) (f:Nat→Bool) (n:Nat):Prop:=aJ w B 4 ((List.range n).map fun b=> .bool (f b))
theorem tM.cell {w:World} {B:Nat} {f:Nat→Bool} {n:Nat} (h:tM w B f n) (k:Nat) (hk:k<n):w.cell? ⟨B,k,none⟩=some (.bool (f k))∧w.frozen? ⟨B,k,none⟩=false:=
 ⟨by rw [aJ.cell h k];simp [hk],aJ.frozen h k⟩
theorem tM.ext {w w':World} {B:Nat} {f:Nat→Bool} {n:Nat} (h:tM w B f n) (e:Ext w w'):tM w' B f n:=aJ.ext h e
theorem tM.set {w:World} {B:Nat} {f:Nat→Bool} {n:Nat} (h:tM w B f n) (k:Nat):tM (w.setCell ⟨B,k,none⟩ (.bool true)) B (fun b=>f b||b==k) n:=by
 unfold tM at*;have h5:=aJ.set h k (.bool true)
 have:((List.range n).map fun b=>Value.bool (f b)).set k (.bool true)=(List.range n).map fun b=> .bool (f b||b==k):=by
  apply List.ext_getElem
  ·simp
  ·intro i h1 h2
   rw [List.getElem_set];simp only [List.getElem_map,List.getElem_range];by_cases hik:k=i
   ·subst hik;simp
   ·have:(i==k)=false:=by simp;omega
    rw [if_neg hik,this,Bool.or_false]
 rw [this]at h5;exact h5
theorem tM.zero {w:World} {B:Nat} {n:Nat} (h:aJ w B 4 (List.replicate n (.bool false))):tM w B (fun _=>false) n:=by
 unfold tM
 have:((List.range n).map fun _=>Value.bool false)=List.replicate n (.bool false):=by
  apply List.ext_getElem
  ·simp
  ·intro i h1 h2;simp
 rw [this];exact h
def kS (c:ai) (h:Nat) (us:List Nat) (t:Nat→Bool) (i:Nat) (b:Int):Prop:=
 (b= -1∧ ∀y∈us.take i,t y=true)∨ ∃x:Nat,b=(x:Int)∧x∈us.take i∧t x=false∧ ∀y∈us.take i,t y=false→iD c h y≤iD c h x
theorem kS.zero (c:ai) (h:Nat) (us:List Nat) (t:Nat→Bool):kS c h us t 0 (-1):= .inl ⟨rfl,fun y hy=>by simp at hy⟩
theorem kS.first {c:ai} {h:Nat} {us:List Nat} {t:Nat→Bool} {i:Nat} (H:kS c h us t i (-1)) (hi:i<us.length) (ht:t us[i]=false):kS c h us t (i+1) (us[i]:Int):=by
 unfold kS at*;rw [List.take_succ_eq_append_getElem hi];rcases H with⟨h1,h2⟩|⟨x,h1,h2,h3,h4⟩
 ·refine .inr ⟨us[i],rfl,List.mem_append_right _ (List.mem_singleton.2 rfl),ht,fun y hy Qb=> ?_⟩
  rcases List.mem_append.1 hy with e|e
  ·rw [h2 y e]at Qb;cases Qb
  ·rw [List.mem_singleton]at e;rw [e];exact Int.le_refl _
 ·omega
theorem kS.next {c:ai} {h:Nat} {us:List Nat} {t:Nat→Bool} {i x:Nat} (H:kS c h us t i (x:Int)) (hi:i<us.length) (ht:t us[i]=false) (b:Bool) (hb:b=decide (iD c h x<iD c h us[i])):kS c h us t (i+1) (if b=true then(us[i]:Int)else(x:Int)):=by
 unfold kS at*;rw [List.take_succ_eq_append_getElem hi];rcases H with⟨h1,h2⟩|⟨x',h1,h2,h3,h4⟩
 ·omega
 ·obtain rfl:x=x':=by omega
  by_cases q:iD c h x<iD c h us[i]
  ·have hbt:b=true:=by rw [hb];simpa using q
   rw [if_pos hbt];refine .inr ⟨us[i],rfl,List.mem_append_right _ (List.mem_singleton.2 rfl),ht,fun y hy Qb=> ?_⟩;rcases List.mem_append.1 hy with e|e
   ·have:=h4 y e Qb;omega
   ·rw [List.mem_singleton]at e;rw [e];exact Int.le_refl _
  ·have hbf: ¬b=true:=by rw [hb];simpa using q
   rw [if_neg hbf];refine .inr ⟨x,rfl,List.mem_append_left _ h2,h3,fun y hy Qb=> ?_⟩;rcases List.mem_append.1 hy with e|e
   ·exact h4 y e Qb
   ·rw [List.mem_singleton]at e;rw [e];omega
end Go.Proofs.YtkpngkdgphojlaaGreat
