/- CutsGrow: for every list of numbers, every cut that is made of them, and every unit left out: the greatest number falls by at most one, a Cover with it is valid, with one more it is not. No condition. -/
import Derived.Test.YtkpngkdgphojlaaGreatCc40
import Derived.Test.YtkpngkdgphojlaaGreatCc41
set_option linter.all false
namespace Go.Proofs.YtkpngkdgphojlaaGreat.Im
open Go.ChangeShapes Go.WideShapes Go.ChangeAt Go.RowKit
theorem walk (a0:Option Addr) (qM qN:Nat) (z0:List Int) (a1:Option Addr) (nJ qO:Nat) (z1:List Int) (a2:Int) (w:World) (w0:lV .i64 w a0 qM qN z0) (w1:lV .i64 w a1 nJ qO z1) (w2:(Lit.int .i64 a2).wf=true):
 Calls Tryz.prog 4 #[.slice a0 qM qN,.slice a1 nJ qO,.int .i64 a2] w fun e w'=>e= .returned (.bool true)∧Below w.heap.size w w':=by
 obtain ⟨hl0,WH⟩:=w0.zZ;obtain ⟨KV,WI⟩:=w1.zZ;obtain ⟨lo2,II⟩:=wf_i64 w2;have h:=ur w a0 qN (z0.take qM) a1 qO (z1.take nJ) a2 WH WI lo2 II;rw [hl0,KV]at h;exact h.mono fun _ _ ⟨he,hx⟩=>⟨he,hx.below⟩
set_option maxRecDepth 100000 in
theorem lifted (os:Os) (started:os.Started) (H:Type) (enc:TypeId×Value→H):
 ReturnsInHanded {} Tryz.checked os 4 .any (Rows.cutsGrowSpec.pre6 enc Tryz.prog Tryz.f4 Rows.cutsGrowRow.domain false) (Rows.cutsGrowSpec.post enc Tryz.prog Tryz.f4 false true false false):=by
 refine returnsInHanded_of_change (C:=Tryz.checked) Tryz.own started (by kernel_rfl) Tryz.func4
  (ChangeSpec.witness6 (enc:=enc) (C:=Tryz.checked) false ⟨#[],#[.slice none 0 0,.slice none 0 0,.int .i64 0],[]⟩ 8 (by kernel_rfl) (by kernel_rfl) (by kernel_rfl) (by kernel_rfl)) ?_
 intro W base args ds gs before z_ hW hcnd _;have hval: ∀(j:Nat) t v,Tryz.f4.params[j]?=some t→args[j]?=some v→Value.okWide Tryz.prog W .any base t v:=z_;have KG:=hW;obtain ⟨p,q,Le,hV,rfl,OE,hnd⟩:=hW;have hA:DataW.TrodAll enc Tryz.prog W 0 (fun _=>true) true Tryz.f4.params.toList args.toList ds p:=Le;rw [Tryz.params4]at hA hval;obtain ⟨v0,vs0,d0,ds0,p0,q0,SA,rfl,rfl,h0,r0⟩:=trodAll_cons hA;obtain ⟨v1,vs1,d1,ds1,p1,q1,rfl,rfl,rfl,h1,r1⟩:=trodAll_cons r0;obtain ⟨v2,vs2,d2,ds2,p2,q2,rfl,rfl,rfl,h2,r2⟩:=trodAll_cons r1;obtain ⟨rfl,rfl,rfl⟩:=trodAll_nil r2;obtain rfl:args= #[v0,v1,v2]:=by cases args;simp_all
 obtain ⟨rfl,rfl⟩:=trodVars_none hV;obtain ⟨a0,qM,qN,rfl⟩:=okWide_slice Tryz.underlying22 (hval 0 22 v0 rfl rfl);have k0:=h0;have WJ: ∀x∈p0,x.block<W.heap.size:=by obtain ⟨m,hm⟩:=k0;exact DataW.trod_lt m _ _ _ hm
 obtain ⟨z0,w0⟩: ∃zs,lV .i64 W a0 qM qN zs:=by
  obtain ⟨fuel,hf⟩:=h0;rcases open_ints Tryz.underlying22 Tryz.underlying3 (by kernel_rfl) hf with⟨hcs,_⟩|⟨x,l,c,zs,hcs,_,hl,hm,hz,_,hcell,Kt⟩
  ·simp [Value.cells]at hcs
   obtain ⟨rfl,rfl,rfl⟩:=hcs;exact ⟨[],.inl ⟨rfl,rfl,rfl,rfl⟩⟩
  ·simp [Value.cells]at hcs
   obtain ⟨rfl,rfl,rfl⟩:=hcs;exact ⟨zs,.inr ⟨_,rfl,hl,hm,by simpa using hz,hcell,Kt⟩⟩
 obtain ⟨a1,nJ,qO,rfl⟩:=okWide_slice Tryz.underlying22 (hval 1 22 v1 rfl rfl);have k1:=h1;have WK: ∀x∈p1,x.block<W.heap.size:=by obtain ⟨m,hm⟩:=k1;exact DataW.trod_lt m _ _ _ hm
 obtain ⟨z1,w1⟩: ∃zs,lV .i64 W a1 nJ qO zs:=by
  obtain ⟨fuel,hf⟩:=h1;rcases open_ints Tryz.underlying22 Tryz.underlying3 (by kernel_rfl) hf with⟨hcs,_⟩|⟨x,l,c,zs,hcs,_,hl,hm,hz,_,hcell,Kt⟩
  ·simp [Value.cells]at hcs
   obtain ⟨rfl,rfl,rfl⟩:=hcs;exact ⟨[],.inl ⟨rfl,rfl,rfl,rfl⟩⟩
  ·simp [Value.cells]at hcs
   obtain ⟨rfl,rfl,rfl⟩:=hcs;exact ⟨zs,.inr ⟨_,rfl,hl,hm,by simpa using hz,hcell,Kt⟩⟩
 obtain ⟨a2,rfl,rfl,rfl,w2⟩:=open_int Tryz.underlying3 (hval 2 3 v2 rfl rfl) h2;clear Le z_;refine (walk a0 qM qN z0 a1 nJ qO z1 a2 W w0 w1 w2).mono fun e W' ⟨he,IZ⟩=> ?_;subst he;exact ⟨_,rfl,_,_,_,[],_,[],KG,trodAll_mk1 (shut_bool Tryz.underlying4 _),(trodAll_cons_mk (Below.trod Tryz.laidOut (by kernel_rfl) (of_decide_eq_true (by kernel_rfl)) k0 IZ WJ) (trodAll_cons_mk (Below.trod Tryz.laidOut (by kernel_rfl) (of_decide_eq_true (by kernel_rfl)) k1 IZ WK) (trodAll_cons_mk (shut_int Tryz.underlying3 w2) trodAll_mk0))),rfl,IZ.frame _,fun h=>by cases h⟩
theorem over:Rows.cutsGrowRow.holds Tryz.pinned (OpenSpec.ofChange Rows.cutsGrowSpec):=
 OpenClaim.holds_of_wide 4 Tryz.f4 rfl rfl rfl rfl rfl rfl rfl ⟨rfl,rfl,rfl,rfl,rfl⟩ rfl rfl rfl rfl rfl (by kernel_rfl) Tryz.func4 (by kernel_rfl)
  (of_decide_eq_true (by kernel_rfl)) (by unfold Func.isWrapper;first|(rw [if_pos (by decide+kernel)];kernel_rfl)|(rw [if_neg (by decide+kernel)];exact ⟨rfl,rfl⟩))
  (fun os started H enc _=>lifted os started H enc)
theorem proved:Rows.CutsGrowSaid:=over
#print axioms proved
end Go.Proofs.YtkpngkdgphojlaaGreat.Im
