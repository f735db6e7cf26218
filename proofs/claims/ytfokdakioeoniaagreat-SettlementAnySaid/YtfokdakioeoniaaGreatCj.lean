/- SettlementAny: for every small case, schedule and prices, and every hour, the amounts, the statement and the errors are the reference's. No condition. -/
import Derived.SizedLaws
import Derived.Test.YtfokdakioeoniaaGreatCj54
set_option linter.all false
set_option maxRecDepth 100000
namespace Go.Proofs.YtfokdakioeoniaaGreat.settlementAny
open Go.ChangeShapes Go.WideShapes Go.ChangeAt Go.RowKit
theorem walk (x0:aq) (x1:aQ) (x2:aU) (a3:Int) (w:World) (w0:bK w x0/\ ∀o∈x0.outs,o.moves.length<=5900000000000) (w1:j8 w x1) (w2:jg w x2):
 Calls Tryz.prog 4 #[.agg x0.cells.toArray,.agg x1.cells.toArray,.agg x2.cells.toArray,.int .i64 a3] w λe w'=>e= .returned (.bool true)/\Below w.heap.size w w':=
 (tu w x0 x1 x2 a3 w0.1 w0.2 w1 w2).mono λ_ _ ⟨he,hx⟩=>⟨he,hx.below⟩
theorem lifted (os:Os) (started:os.Started) (H:Type) (enc:TypeId×Value->H):
 ReturnsInHanded {} Tryz.checked os 4 .any (Rows.settlementAnySpec.pre6 enc Tryz.prog Tryz.f4 Rows.settlementAnyRow.domain false) (Rows.settlementAnySpec.post enc Tryz.prog Tryz.f4 false true false false):=by
 refine returnsInHanded_of_change_sized (C:=Tryz.checked) Tryz.own started (by kernel_rfl) Tryz.func4
  (ChangeSpec.witness6 (enc:=enc) (C:=Tryz.checked) false ⟨#[],#[.agg #[i64 0,.slice none 0 0,.slice none 0 0,.slice none 0 0,.slice none 0 0,.slice none 0 0,.slice none 0 0,.slice none 0 0],.agg #[.slice none 0 0,.slice none 0 0,.slice none 0 0,.slice none 0 0,.slice none 0 0,.slice none 0 0,.slice none 0 0,.slice none 0 0],.agg #[.slice none 0 0,.slice none 0 0,.slice none 0 0],i64 0],[]⟩ 16 (by kernel_rfl) (by kernel_rfl) (by kernel_rfl) (by kernel_rfl)) ?_
 intro W base args ds gs before TL hW hcnd hsz _;have hval: ∀(j:Nat) t v,Tryz.f4.params[j]?=some t->args[j]?=some v->Value.okWide Tryz.prog W .any base t v:=TL;have Wq:=hW;obtain ⟨p,q,EK,hV,rfl,qG,hnd⟩:=hW;have hA:DataW.TrodAll enc Tryz.prog W 0 (λ_=>true) true Tryz.f4.params.toList args.toList ds p:=EK;rw [Tryz.params4]at hA hval hsz;obtain ⟨v0,vs0,d0,ds0,p0,q0,ags,rfl,rfl,h0,r0⟩:=trodAll_cons hA;obtain ⟨v1,vs1,d1,ds1,p1,q1,rfl,rfl,rfl,h1,r1⟩:=trodAll_cons r0;obtain ⟨v2,vs2,d2,ds2,p2,q2,rfl,rfl,rfl,h2,r2⟩:=trodAll_cons r1;obtain ⟨v3,vs3,d3,ds3,p3,q3,rfl,rfl,rfl,h3,r3⟩:=trodAll_cons r2;obtain ⟨rfl,rfl,rfl⟩:=trodAll_nil r3;obtain rfl:args= #[v0,v1,v2,v3]:=by cases args;simp_all
 obtain ⟨rfl,rfl⟩:=trodVars_none hV;have hall:=List.all_eq_true.1 hsz;obtain ⟨cs0,rfl,-⟩:=okWide_struct Tryz.underlying30 (hval 0 30 v0 rfl rfl);have k0:=h0;have lt0: ∀x∈p0,x.block<W.heap.size:=by obtain ⟨m,hm⟩:=k0;exact DataW.trod_lt m _ _ _ hm
 have W0:Wt d0 30:=λn hn=>by
  have yE:n∈DataW.weights Tryz.checked.prog 30 d0:=hn;have:=hall n (by simp [DataW.weightsEach,yE]);simpa using this
 obtain ⟨x0,hx0,w0⟩: ∃r:aq,(Value.agg cs0).cells.toList=r.cells/\(bK W r/\ ∀o∈r.outs,o.moves.length<=5900000000000):=by obtain ⟨fuel,hf⟩:=h0;exact Nf hf W0
 obtain rfl:cs0=x0.cells.toArray:=by
  have h:cs0.toList=x0.cells:=hx0;rw [<-h]
 obtain ⟨cs1,rfl,-⟩:=okWide_struct Tryz.underlying39 (hval 1 39 v1 rfl rfl);have k1:=h1;have lt1: ∀x∈p1,x.block<W.heap.size:=by obtain ⟨m,hm⟩:=k1;exact DataW.trod_lt m _ _ _ hm
 have W1:Wt d1 39:=λn hn=>by
  have yE:n∈DataW.weights Tryz.checked.prog 39 d1:=hn;have:=hall n (by simp [DataW.weightsEach,yE]);simpa using this
 obtain ⟨x1,hx1,w1⟩: ∃r:aQ,(Value.agg cs1).cells.toList=r.cells/\j8 W r:=by obtain ⟨fuel,hf⟩:=h1;exact JS hf W1
 obtain rfl:cs1=x1.cells.toArray:=by
  have h:cs1.toList=x1.cells:=hx1;rw [<-h]
 obtain ⟨cs2,rfl,-⟩:=okWide_struct Tryz.underlying35 (hval 2 35 v2 rfl rfl);have k2:=h2;have lt2: ∀x∈p2,x.block<W.heap.size:=by obtain ⟨m,hm⟩:=k2;exact DataW.trod_lt m _ _ _ hm
 have W2:Wt d2 35:=λn hn=>by
  have yE:n∈DataW.weights Tryz.checked.prog 35 d2:=hn;have:=hall n (by simp [DataW.weightsEach,yE]);simpa using this
 obtain ⟨x2,hx2,w2⟩: ∃r:aU,(Value.agg cs2).cells.toList=r.cells/\jg W r:=by obtain ⟨fuel,hf⟩:=h2;exact Hn hf W2
 obtain rfl:cs2=x2.cells.toArray:=by
  have h:cs2.toList=x2.cells:=hx2;rw [<-h]
 obtain ⟨a3,rfl,rfl,rfl,w3⟩:=open_int Tryz.underlying3 (hval 3 3 v3 rfl rfl) h3;clear EK TL;refine (walk x0 x1 x2 a3 W w0 w1 w2).mono λe W' ⟨he,bel⟩=> ?_;subst he;exact ⟨_,rfl,_,_,_,[],_,[],Wq,trodAll_mk1 (shut_bool Tryz.underlying4 _),(trodAll_cons_mk (Below.trod Tryz.laidOut (by kernel_rfl) (of_decide_eq_true (by kernel_rfl)) k0 bel lt0) (trodAll_cons_mk (Below.trod Tryz.laidOut (by kernel_rfl) (of_decide_eq_true (by kernel_rfl)) k1 bel lt1) (trodAll_cons_mk (Below.trod Tryz.laidOut (by kernel_rfl) (of_decide_eq_true (by kernel_rfl)) k2 bel lt2) (trodAll_cons_mk (shut_int Tryz.underlying3 w3) trodAll_mk0)))),rfl,bel.frame _,λh=>by cases h⟩
theorem over:Rows.settlementAnyRow.holds Tryz.pinned (OpenSpec.ofChange Rows.settlementAnySpec):=
 OpenClaim.holds_of_wide 4 Tryz.f4 rfl rfl rfl rfl rfl rfl rfl ⟨rfl,rfl,rfl,rfl,rfl⟩ rfl rfl rfl rfl rfl named Tryz.func4 closed inst wrap
  (λos started H enc _=>lifted os started H enc)
theorem proved:Rows.SettlementAnySaid:=over
#print axioms proved
end Go.Proofs.YtfokdakioeoniaaGreat.settlementAny
