/- ScreenBoxes: for every case that is made of numbers and every small case, every table of kinds and hour: the boxes of the buses, and the errors, are the reference's. No condition. -/
import Derived.SizedLaws
import Derived.Test.YtkpngkdgphojlaaGreatCd51
import Derived.Test.YtkpngkdgphojlaaGreatCd52
set_option linter.all false
set_option maxRecDepth 100000
namespace Go.Proofs.YtkpngkdgphojlaaGreat.screenBoxes
open Go.ChangeShapes Go.WideShapes Go.ChangeAt Go.RowKit
theorem walk (a0:Option Addr) (GG GH:Nat) (z0:List Int) (a1:Option Addr) (qP GI:Nat) (z1:List Int) (a2:Option Addr) (c2:Nat) (x2:List KV) (a3:Int) (a4:Int) (a5:Bool) (x6:ai) (w:World) (w0:yt .i64 w a0 GG GH z0) (w1:yt .i64 w a1 qP GI z1) (w2:iI w a2 c2 x2) (w3:(Lit.int .i64 a3).wf=true) (w4:(Lit.int .i64 a4).wf=true)
 (w6:aS w x6∧ ∀o∈x6.outs,o.moves.length≤5900000000000):
 Calls Tryz.prog 6 #[.slice a0 GG GH,.slice a1 qP GI,.slice a2 x2.length c2,.int .i64 a3,.int .i64 a4,.bool a5,.agg x6.cells.toArray] w fun e w'=>e= .returned (.bool true)∧Below w.heap.size w w':=by
 obtain ⟨hl0,hI0⟩:=w0.M_;obtain ⟨Kf,hI1⟩:=w1.M_;have h:=qJ w a0 GH (z0.take GG) a1 GI (z1.take qP) a2 c2 x2 a3 a4 a5 x6 hI0 hI1 w2 (wf_i64 w3) (wf_i64 w4) w6.1 w6.2;rw [hl0,Kf]at h;exact h.mono fun _ _ ⟨he,hx⟩=>⟨he,hx.below⟩
theorem lifted (os:Os) (started:os.Started) (H:Type) (enc:TypeId×Value→H):
 ReturnsInHanded {} Tryz.checked os 6 .any (Rows.screenBoxesSpec.pre6 enc Tryz.prog Tryz.f6 Rows.screenBoxesRow.domain false) (Rows.screenBoxesSpec.post enc Tryz.prog Tryz.f6 false true false false):=by
 refine returnsInHanded_of_change_sized (C:=Tryz.checked) Tryz.own started (by kernel_rfl) Tryz.func6
  (ChangeSpec.witness6 (enc:=enc) (C:=Tryz.checked) false ⟨#[],#[.slice none 0 0,.slice none 0 0,.slice none 0 0,.int .i64 0,.int .i64 0,.bool false,.agg #[i64 0,.slice none 0 0,.slice none 0 0,.slice none 0 0,.slice none 0 0,.slice none 0 0,.slice none 0 0,.slice none 0 0]],[]⟩ 16 (by kernel_rfl) (by kernel_rfl) (by kernel_rfl) (by kernel_rfl)) ?_
 intro W base args ds gs before Na hW hcnd hsz _;have hval: ∀(j:Nat) t v,Tryz.f6.params[j]?=some t→args[j]?=some v→Value.okWide Tryz.prog W .any base t v:=Na;have Py:=hW;obtain ⟨p,q,hA0,hV,rfl,BH,hnd⟩:=hW;have hA:DataW.TrodAll enc Tryz.prog W 0 (fun _=>true) true Tryz.f6.params.toList args.toList ds p:=hA0;rw [Tryz.params6]at hA hval hsz;obtain ⟨v0,vs0,d0,ds0,p0,q0,acv,rfl,rfl,h0,r0⟩:=trodAll_cons hA;obtain ⟨v1,vs1,d1,ds1,p1,q1,rfl,rfl,rfl,h1,r1⟩:=trodAll_cons r0;obtain ⟨v2,vs2,d2,ds2,p2,q2,rfl,rfl,rfl,h2,r2⟩:=trodAll_cons r1;obtain ⟨v3,vs3,d3,ds3,p3,q3,rfl,rfl,rfl,h3,r3⟩:=trodAll_cons r2;obtain ⟨v4,vs4,d4,ds4,p4,q4,rfl,rfl,rfl,h4,r4⟩:=trodAll_cons r3;obtain ⟨v5,vs5,d5,ds5,p5,q5,rfl,rfl,rfl,h5,r5⟩:=trodAll_cons r4;obtain ⟨v6,vs6,d6,ds6,p6,q6,rfl,rfl,rfl,h6,r6⟩:=trodAll_cons r5;obtain ⟨rfl,rfl,rfl⟩:=trodAll_nil r6;obtain rfl:args= #[v0,v1,v2,v3,v4,v5,v6]:=by cases args;simp_all
 obtain ⟨rfl,rfl⟩:=trodVars_none hV;have hall:=List.all_eq_true.1 hsz;obtain ⟨a0,GG,GH,rfl⟩:=okWide_slice Tryz.underlying22 (hval 0 22 v0 rfl rfl);have k0:=h0;have lt0: ∀x∈p0,x.block<W.heap.size:=by obtain ⟨m,hm⟩:=k0;exact DataW.trod_lt m _ _ _ hm
 obtain ⟨z0,w0⟩: ∃zs,yt .i64 W a0 GG GH zs:=by
  obtain ⟨fuel,hf⟩:=h0;rcases open_ints Tryz.underlying22 Tryz.underlying3 (by kernel_rfl) hf with⟨hcs,_⟩|⟨x,l,c,zs,hcs,_,hl,hm,hz,_,hcell,Zi⟩
  ·simp [Value.cells]at hcs
   obtain ⟨rfl,rfl,rfl⟩:=hcs;exact ⟨[],.inl ⟨rfl,rfl,rfl,rfl⟩⟩
  ·simp [Value.cells]at hcs
   obtain ⟨rfl,rfl,rfl⟩:=hcs;exact ⟨zs,.inr ⟨_,rfl,hl,hm,by simpa using hz,hcell,Zi⟩⟩
 obtain ⟨a1,qP,GI,rfl⟩:=okWide_slice Tryz.underlying22 (hval 1 22 v1 rfl rfl);have k1:=h1;have lt1: ∀x∈p1,x.block<W.heap.size:=by obtain ⟨m,hm⟩:=k1;exact DataW.trod_lt m _ _ _ hm
 obtain ⟨z1,w1⟩: ∃zs,yt .i64 W a1 qP GI zs:=by
  obtain ⟨fuel,hf⟩:=h1;rcases open_ints Tryz.underlying22 Tryz.underlying3 (by kernel_rfl) hf with⟨hcs,_⟩|⟨x,l,c,zs,hcs,_,hl,hm,hz,_,hcell,Zi⟩
  ·simp [Value.cells]at hcs
   obtain ⟨rfl,rfl,rfl⟩:=hcs;exact ⟨[],.inl ⟨rfl,rfl,rfl,rfl⟩⟩
  ·simp [Value.cells]at hcs
   obtain ⟨rfl,rfl,rfl⟩:=hcs;exact ⟨zs,.inr ⟨_,rfl,hl,hm,by simpa using hz,hcell,Zi⟩⟩
 obtain ⟨a2,T8,Px,rfl⟩:=okWide_slice Tryz.underlying59 (hval 2 59 v2 rfl rfl);have k2:=h2;have lt2: ∀x∈p2,x.block<W.heap.size:=by obtain ⟨m,hm⟩:=k2;exact DataW.trod_lt m _ _ _ hm
 have W2:Wt d2 59:=fun n hn=>by
  have L_:n∈DataW.weights Tryz.checked.prog 59 d2:=hn;have:=hall n (by simp [DataW.weightsEach,L_]);simpa using this
 obtain ⟨b2,c2,x2,e2,w2⟩: ∃a c ks,Value.slice a2 T8 Px= .slice a (List.length ks) c∧iI W a c ks:=by obtain ⟨fuel,hf⟩:=h2;exact D_ hf W2
 obtain ⟨rfl,rfl,rfl⟩:a2=b2∧T8=List.length x2∧Px=c2:=by simpa using e2
 clear e2;obtain ⟨a3,rfl,rfl,rfl,w3⟩:=open_int Tryz.underlying3 (hval 3 3 v3 rfl rfl) h3;obtain ⟨a4,rfl,rfl,rfl,w4⟩:=open_int Tryz.underlying3 (hval 4 3 v4 rfl rfl) h4;obtain ⟨a5,rfl,rfl,rfl⟩:=open_bool Tryz.underlying4 (hval 5 4 v5 rfl rfl) h5;obtain ⟨Zj,rfl,-⟩:=okWide_struct Tryz.underlying32 (hval 6 32 v6 rfl rfl);have k6:=h6;have lt6: ∀x∈p6,x.block<W.heap.size:=by obtain ⟨m,hm⟩:=k6;exact DataW.trod_lt m _ _ _ hm
 have W6:Wt d6 32:=fun n hn=>by
  have L_:n∈DataW.weights Tryz.checked.prog 32 d6:=hn;have:=hall n (by simp [DataW.weightsEach,L_]);simpa using this
 obtain ⟨x6,kU,w6⟩: ∃r:ai,(Value.agg Zj).cells.toList=r.cells∧(aS W r∧ ∀o∈r.outs,o.moves.length≤5900000000000):=by obtain ⟨fuel,hf⟩:=h6;exact GD hf W6
 obtain rfl:Zj=x6.cells.toArray:=by
  have h:Zj.toList=x6.cells:=kU;rw [←h]
 clear hA0 Na;refine (walk a0 GG GH z0 a1 qP GI z1 a2 Px x2 a3 a4 a5 x6 W w0 w1 w2 w3 w4 w6).mono fun e W' ⟨he,T9⟩=> ?_;subst he;exact ⟨_,rfl,_,_,_,[],_,[],Py,trodAll_mk1 (shut_bool Tryz.underlying4 _),(trodAll_cons_mk (Below.trod Tryz.laidOut (by kernel_rfl) (of_decide_eq_true (by kernel_rfl)) k0 T9 lt0) (trodAll_cons_mk (Below.trod Tryz.laidOut (by kernel_rfl) (of_decide_eq_true (by kernel_rfl)) k1 T9 lt1) (trodAll_cons_mk (Below.trod Tryz.laidOut (by kernel_rfl) (of_decide_eq_true (by kernel_rfl)) k2 T9 lt2) (trodAll_cons_mk (shut_int Tryz.underlying3 w3) (trodAll_cons_mk (shut_int Tryz.underlying3 w4) (trodAll_cons_mk (shut_bool Tryz.underlying4 _) (trodAll_cons_mk (Below.trod Tryz.laidOut (by kernel_rfl) (of_decide_eq_true (by kernel_rfl)) k6 T9 lt6) trodAll_mk0))))))),rfl,T9.frame _,fun h=>by cases h⟩
theorem over:Rows.screenBoxesRow.holds Tryz.pinned (OpenSpec.ofChange Rows.screenBoxesSpec):=
 OpenClaim.holds_of_wide 6 Tryz.f6 rfl rfl rfl rfl rfl rfl rfl ⟨rfl,rfl,rfl,rfl,rfl⟩ rfl rfl rfl rfl rfl (by kernel_rfl) Tryz.func6 (by kernel_rfl)
  (of_decide_eq_true (by kernel_rfl)) (by unfold Func.isWrapper;first|(rw [if_pos (by decide+kernel)];kernel_rfl)|(rw [if_neg (by decide+kernel)];exact ⟨rfl,rfl⟩))
  (fun os started H enc _=>lifted os started H enc)
theorem proved:Rows.ScreenBoxesSaid:=over
#print axioms proved
end Go.Proofs.YtkpngkdgphojlaaGreat.screenBoxes
