/- CutsSeparate: for every case that is made of numbers and every small case, and every fractional commitment, the Covers that are found, and the errors, are the reference's. No condition. -/
import Derived.SizedLaws
import Derived.Test.YtbnamicbjaaelaaGreatCg55
set_option linter.all false
set_option maxRecDepth 100000
namespace Go.Proofs.YtbnamicbjaaelaaGreat.cutsSeparate
open Go.ChangeShapes Go.WideShapes Go.ChangeAt Go.RowKit
theorem walk (a0:Option Addr) (J1 J2:Nat) (z0:List Int) (a1:Option Addr) (oD J3:Nat) (z1:List Int) (a2:Option Addr) (c2:Nat) (x2:List kF) (x3:ay) (a4:Bool) (w:World) (w0:Au .i64 w a0 J1 J2 z0) (w1:Au .i64 w a1 oD J3 z1) (w2:u_ w a2 c2 x2)
 (w3:bm w x3/\ ∀o∈x3.outs,o.moves.length<=5900000000000):
 Calls Tryz.prog 4 #[.slice a0 J1 J2,.slice a1 oD J3,.slice a2 x2.length c2,.agg x3.cells.toArray,.bool a4] w λe w'=>e= .returned (.bool true)/\Below w.heap.size w w':=by
 obtain ⟨hl0,hI0⟩:=w0.Qw;obtain ⟨zn,hI1⟩:=w1.Qw;have h:=qK w a0 J2 (z0.take J1) a1 J3 (z1.take oD) a2 c2 x2 x3 a4 hI0 hI1 w2 w3.1 w3.2;rw [hl0,zn]at h;exact h.mono λ_ _ ⟨he,hx⟩=>⟨he,hx.below⟩
theorem lifted (os:Os) (started:os.Started) (H:Type) (enc:TypeId×Value->H):
 ReturnsInHanded {} Tryz.checked os 4 .any (Rows.cutsSeparateSpec.pre6 enc Tryz.prog Tryz.f4 Rows.cutsSeparateRow.domain false) (Rows.cutsSeparateSpec.post enc Tryz.prog Tryz.f4 false true false false):=by
 refine returnsInHanded_of_change_sized (C:=Tryz.checked) Tryz.own started (by kernel_rfl) Tryz.func4
  (ChangeSpec.witness6 (enc:=enc) (C:=Tryz.checked) false ⟨#[],#[.slice none 0 0,.slice none 0 0,.slice none 0 0,.agg #[i64 0,.slice none 0 0,.slice none 0 0,.slice none 0 0,.slice none 0 0,.slice none 0 0,.slice none 0 0,.slice none 0 0],.bool false],[]⟩ 16 (by kernel_rfl) (by kernel_rfl) (by kernel_rfl) (by kernel_rfl)) ?_
 intro W base args ds gs before Qx hW hcnd hsz _;have hval: ∀(j:Nat) t v,Tryz.f4.params[j]?=some t->args[j]?=some v->Value.okWide Tryz.prog W .any base t v:=Qx;have Tn:=hW;obtain ⟨p,q,X5,hV,rfl,qL,hnd⟩:=hW;have hA:DataW.TrodAll enc Tryz.prog W 0 (λ_=>true) true Tryz.f4.params.toList args.toList ds p:=X5;rw [Tryz.params4]at hA hval hsz;obtain ⟨v0,vs0,d0,ds0,p0,q0,agq,rfl,rfl,h0,r0⟩:=trodAll_cons hA;obtain ⟨v1,vs1,d1,ds1,p1,q1,rfl,rfl,rfl,h1,r1⟩:=trodAll_cons r0;obtain ⟨v2,vs2,d2,ds2,p2,q2,rfl,rfl,rfl,h2,r2⟩:=trodAll_cons r1;obtain ⟨v3,vs3,d3,ds3,p3,q3,rfl,rfl,rfl,h3,r3⟩:=trodAll_cons r2;obtain ⟨v4,vs4,d4,ds4,p4,q4,rfl,rfl,rfl,h4,r4⟩:=trodAll_cons r3;obtain ⟨rfl,rfl,rfl⟩:=trodAll_nil r4;obtain rfl:args= #[v0,v1,v2,v3,v4]:=by cases args;simp_all
 obtain ⟨rfl,rfl⟩:=trodVars_none hV;have hall:=List.all_eq_true.1 hsz;obtain ⟨a0,J1,J2,rfl⟩:=okWide_slice Tryz.underlying22 (hval 0 22 v0 rfl rfl);have k0:=h0;have lt0: ∀x∈p0,x.block<W.heap.size:=by obtain ⟨m,hm⟩:=k0;exact DataW.trod_lt m _ _ _ hm
 obtain ⟨z0,w0⟩: ∃zs,Au .i64 W a0 J1 J2 zs:=by
  obtain ⟨fuel,hf⟩:=h0;rcases open_ints Tryz.underlying22 Tryz.underlying3 (by kernel_rfl) hf with⟨hcs,_⟩|⟨x,l,c,zs,hcs,_,hl,hm,hz,_,hcell,hwz⟩
  .simp [Value.cells]at hcs
   obtain ⟨rfl,rfl,rfl⟩:=hcs;exact ⟨[],.inl ⟨rfl,rfl,rfl,rfl⟩⟩
  .simp [Value.cells]at hcs
   obtain ⟨rfl,rfl,rfl⟩:=hcs;exact ⟨zs,.inr ⟨_,rfl,hl,hm,by simpa using hz,hcell,hwz⟩⟩
 obtain ⟨a1,oD,J3,rfl⟩:=okWide_slice Tryz.underlying22 (hval 1 22 v1 rfl rfl);have k1:=h1;have lt1: ∀x∈p1,x.block<W.heap.size:=by obtain ⟨m,hm⟩:=k1;exact DataW.trod_lt m _ _ _ hm
 obtain ⟨z1,w1⟩: ∃zs,Au .i64 W a1 oD J3 zs:=by
  obtain ⟨fuel,hf⟩:=h1;rcases open_ints Tryz.underlying22 Tryz.underlying3 (by kernel_rfl) hf with⟨hcs,_⟩|⟨x,l,c,zs,hcs,_,hl,hm,hz,_,hcell,hwz⟩
  .simp [Value.cells]at hcs
   obtain ⟨rfl,rfl,rfl⟩:=hcs;exact ⟨[],.inl ⟨rfl,rfl,rfl,rfl⟩⟩
  .simp [Value.cells]at hcs
   obtain ⟨rfl,rfl,rfl⟩:=hcs;exact ⟨zs,.inr ⟨_,rfl,hl,hm,by simpa using hz,hcell,hwz⟩⟩
 obtain ⟨a2,Yg,S7,rfl⟩:=okWide_slice Tryz.underlying44 (hval 2 44 v2 rfl rfl);have k2:=h2;have lt2: ∀x∈p2,x.block<W.heap.size:=by obtain ⟨m,hm⟩:=k2;exact DataW.trod_lt m _ _ _ hm
 have W2:Wt d2 44:=λn hn=>by
  have Pu:n∈DataW.weights Tryz.checked.prog 44 d2:=hn;have:=hall n (by simp [DataW.weightsEach,Pu]);simpa using this
 obtain ⟨b2,c2,x2,e2,w2⟩: ∃a c ks,Value.slice a2 Yg S7= .slice a (List.length ks) c/\u_ W a c ks:=by obtain ⟨fuel,hf⟩:=h2;exact J0 hf W2
 obtain ⟨rfl,rfl,rfl⟩:a2=b2/\Yg=List.length x2/\S7=c2:=by simpa using e2
 clear e2;obtain ⟨cs3,rfl,-⟩:=okWide_struct Tryz.underlying32 (hval 3 32 v3 rfl rfl);have k3:=h3;have lt3: ∀x∈p3,x.block<W.heap.size:=by obtain ⟨m,hm⟩:=k3;exact DataW.trod_lt m _ _ _ hm
 have W3:Wt d3 32:=λn hn=>by
  have Pu:n∈DataW.weights Tryz.checked.prog 32 d3:=hn;have:=hall n (by simp [DataW.weightsEach,Pu]);simpa using this
 obtain ⟨x3,hx3,w3⟩: ∃r:ay,(Value.agg cs3).cells.toList=r.cells/\(bm W r/\ ∀o∈r.outs,o.moves.length<=5900000000000):=by obtain ⟨fuel,hf⟩:=h3;exact JZ hf W3
 obtain rfl:cs3=x3.cells.toArray:=by
  have h:cs3.toList=x3.cells:=hx3;rw [<-h]
 obtain ⟨a4,rfl,rfl,rfl⟩:=open_bool Tryz.underlying4 (hval 4 4 v4 rfl rfl) h4;clear X5 Qx;refine (walk a0 J1 J2 z0 a1 oD J3 z1 a2 S7 x2 x3 a4 W w0 w1 w2 w3).mono λe W' ⟨he,Yh⟩=> ?_;subst he;exact ⟨_,rfl,_,_,_,[],_,[],Tn,trodAll_mk1 (shut_bool Tryz.underlying4 _),(trodAll_cons_mk (Below.trod Tryz.laidOut (by kernel_rfl) (of_decide_eq_true (by kernel_rfl)) k0 Yh lt0) (trodAll_cons_mk (Below.trod Tryz.laidOut (by kernel_rfl) (of_decide_eq_true (by kernel_rfl)) k1 Yh lt1) (trodAll_cons_mk (Below.trod Tryz.laidOut (by kernel_rfl) (of_decide_eq_true (by kernel_rfl)) k2 Yh lt2) (trodAll_cons_mk (Below.trod Tryz.laidOut (by kernel_rfl) (of_decide_eq_true (by kernel_rfl)) k3 Yh lt3) (trodAll_cons_mk (shut_bool Tryz.underlying4 _) trodAll_mk0))))),rfl,Yh.frame _,λh=>by cases h⟩
theorem over:Rows.cutsSeparateRow.holds Tryz.pinned (OpenSpec.ofChange Rows.cutsSeparateSpec):=
 OpenClaim.holds_of_wide 4 Tryz.f4 rfl rfl rfl rfl rfl rfl rfl ⟨rfl,rfl,rfl,rfl,rfl⟩ rfl rfl rfl rfl rfl (by kernel_rfl) Tryz.func4 (by kernel_rfl)
  (of_decide_eq_true (by kernel_rfl)) (by unfold Func.isWrapper;first|(rw [if_pos (by decide+kernel)];kernel_rfl)|(rw [if_neg (by decide+kernel)];exact ⟨rfl,rfl⟩))
  (λos started H enc _=>lifted os started H enc)
theorem proved:Rows.CutsSeparateSaid:=over
#print axioms proved
end Go.Proofs.YtbnamicbjaaelaaGreat.cutsSeparate
