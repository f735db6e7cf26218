/- CutsValid: for every case that is made of numbers and every small case, every small cut and list of units: which cuts are valid, and the greatest number of units that a Cover may require, are the reference's. No condition. -/
import Derived.SizedLaws
import Derived.Test.YtkpngkdgphojlaaGreatCc41
import Derived.Test.YtkpngkdgphojlaaGreatCc43
import Derived.Test.YtkpngkdgphojlaaGreatCc44
set_option linter.all false
namespace Go.Proofs.YtkpngkdgphojlaaGreat.ED
open Go.ChangeShapes Go.WideShapes Go.ChangeAt Go.RowKit
theorem walk (a0:Option Addr) (qM qN:Nat) (z0:List Int) (a1:Option Addr) (nJ qO:Nat) (z1:List Int) (a2:Option Addr) (EE EF:Nat) (z2:List Int) (a3:Int) (x4:cq) (x5:aq) (a6:Bool) (w:World) (w0:lV .i64 w a0 qM qN z0) (w1:lV .i64 w a1 nJ qO z1) (w2:lV .i64 w a2 EE EF z2) (w3:(Lit.int .i64 a3).wf=true)
 (w4:aA w x4.ua x4.uc x4.aj∧fp [x4.kind,x4.hour,x4.least,x4.unit,x4.length]) (w5:aT w x5∧ ∀o∈x5.outs,o.moves.length≤5900000000000):
 Calls Tryz.prog 3 #[.slice a0 qM qN,.slice a1 nJ qO,.slice a2 EE EF,.int .i64 a3,.agg x4.cells.toArray,.agg x5.cells.toArray,.bool a6] w fun e w'=>e= .returned (.bool true)∧Below w.heap.size w w':=by
 obtain ⟨hl0,WH⟩:=w0.zZ;obtain ⟨KV,WI⟩:=w1.zZ;obtain ⟨hl2,PJ⟩:=w2.zZ;have h:=r_ w a0 qN (z0.take qM) a1 qO (z1.take nJ) a2 EF (z2.take EE) a3 x4 x5 a6 WH WI PJ (wf_i64 w3) w4.1 (w4.2 _ (by simp)) w5.1 w5.2;rw [hl0,KV,hl2]at h;exact h.mono fun _ _ ⟨he,hx⟩=>⟨he,hx.below⟩
set_option maxRecDepth 100000 in
theorem lifted (os:Os) (started:os.Started) (H:Type) (enc:TypeId×Value→H):
 ReturnsInHanded {} Tryz.checked os 3 .any (Rows.cutsValidSpec.pre6 enc Tryz.prog Tryz.f3 Rows.cutsValidRow.domain false) (Rows.cutsValidSpec.post enc Tryz.prog Tryz.f3 false true false false):=by
 refine returnsInHanded_of_change_sized (C:=Tryz.checked) Tryz.own started (by kernel_rfl) Tryz.func3
  (ChangeSpec.witness6 (enc:=enc) (C:=Tryz.checked) false ⟨#[],#[.slice none 0 0,.slice none 0 0,.slice none 0 0,.int .i64 0,.agg #[i64 0,i64 0,.slice none 0 0,i64 0,i64 0,i64 0],.agg #[i64 0,.slice none 0 0,.slice none 0 0,.slice none 0 0,.slice none 0 0,.slice none 0 0,.slice none 0 0,.slice none 0 0],.bool false],[]⟩ 16 (by kernel_rfl) (by kernel_rfl) (by kernel_rfl) (by kernel_rfl)) ?_
 intro W base args ds gs before z_ hW hcnd hsz _;have hval: ∀(j:Nat) t v,Tryz.f3.params[j]?=some t→args[j]?=some v→Value.okWide Tryz.prog W .any base t v:=z_;have KG:=hW;obtain ⟨p,q,Le,hV,rfl,OE,hnd⟩:=hW;have hA:DataW.TrodAll enc Tryz.prog W 0 (fun _=>true) true Tryz.f3.params.toList args.toList ds p:=Le;rw [Tryz.params3]at hA hval hsz;obtain ⟨v0,vs0,d0,ds0,p0,q0,SA,rfl,rfl,h0,r0⟩:=trodAll_cons hA;obtain ⟨v1,vs1,d1,ds1,p1,q1,rfl,rfl,rfl,h1,r1⟩:=trodAll_cons r0;obtain ⟨v2,vs2,d2,ds2,p2,q2,rfl,rfl,rfl,h2,r2⟩:=trodAll_cons r1;obtain ⟨v3,vs3,d3,ds3,p3,q3,rfl,rfl,rfl,h3,r3⟩:=trodAll_cons r2;obtain ⟨v4,vs4,d4,ds4,p4,q4,rfl,rfl,rfl,h4,r4⟩:=trodAll_cons r3;obtain ⟨v5,vs5,d5,ds5,p5,q5,rfl,rfl,rfl,h5,r5⟩:=trodAll_cons r4;obtain ⟨v6,vs6,d6,ds6,p6,q6,rfl,rfl,rfl,h6,r6⟩:=trodAll_cons r5;obtain ⟨rfl,rfl,rfl⟩:=trodAll_nil r6;obtain rfl:args= #[v0,v1,v2,v3,v4,v5,v6]:=by cases args;simp_all
 obtain ⟨rfl,rfl⟩:=trodVars_none hV;have hall:=List.all_eq_true.1 hsz;obtain ⟨a0,qM,qN,rfl⟩:=okWide_slice Tryz.underlying22 (hval 0 22 v0 rfl rfl);have k0:=h0;have WJ: ∀x∈p0,x.block<W.heap.size:=by obtain ⟨m,hm⟩:=k0;exact DataW.trod_lt m _ _ _ hm
 obtain ⟨z0,w0⟩: ∃zs,lV .i64 W a0 qM qN zs:=by
  obtain ⟨fuel,hf⟩:=h0;rcases open_ints Tryz.underlying22 Tryz.underlying3 (by kernel_rfl) hf with⟨hcs,_⟩|⟨x,l,c,zs,hcs,_,hl,hm,hz,_,hcell,Kt⟩
  ·simp [Value.cells]at hcs
   obtain ⟨rfl,rfl,rfl⟩:=hcs;exact ⟨[],.inl ⟨rfl,rfl,rfl,rfl⟩⟩
  ·simp [Value.cells]at hcs
   obtain ⟨rfl,rfl,rfl⟩:=hcs;exact ⟨zs,.inr ⟨_,rfl,hl,hm,by simpa using hz,hcell,Kt⟩⟩
 obtain ⟨a1,nJ,qO,rfl⟩:=okWide_slice Tryz.underlying22 (hval 1 22 v1 rfl rfl);have k1:=h1;have WK: ∀x∈p1,x.block<W.heap.size:=by obtain ⟨m,hm⟩:=k1;exact DataW.trod_lt m _ _ _ hm
 obtain ⟨z1,w1⟩: ∃zs,lV .i64 W a1 nJ qO zs:=by
  obtain ⟨fuel,hf⟩:=h1;rcases open_ints Tryz.underlying22 Tryz.underlying3 (by kernel_rfl) hf with⟨hcs,_⟩|⟨x,l,c,zs,hcs,_,hl,hm,hz,_,hcell,Kt⟩
  ·simp [Value.cells]at hcs
   obtain ⟨rfl,rfl,rfl⟩:=hcs;exact ⟨[],.inl ⟨rfl,rfl,rfl,rfl⟩⟩
  ·simp [Value.cells]at hcs
   obtain ⟨rfl,rfl,rfl⟩:=hcs;exact ⟨zs,.inr ⟨_,rfl,hl,hm,by simpa using hz,hcell,Kt⟩⟩
 obtain ⟨a2,EE,EF,rfl⟩:=okWide_slice Tryz.underlying22 (hval 2 22 v2 rfl rfl);have k2:=h2;have lt2: ∀x∈p2,x.block<W.heap.size:=by obtain ⟨m,hm⟩:=k2;exact DataW.trod_lt m _ _ _ hm
 obtain ⟨z2,w2⟩: ∃zs,lV .i64 W a2 EE EF zs:=by
  obtain ⟨fuel,hf⟩:=h2;rcases open_ints Tryz.underlying22 Tryz.underlying3 (by kernel_rfl) hf with⟨hcs,_⟩|⟨x,l,c,zs,hcs,_,hl,hm,hz,_,hcell,Kt⟩
  ·simp [Value.cells]at hcs
   obtain ⟨rfl,rfl,rfl⟩:=hcs;exact ⟨[],.inl ⟨rfl,rfl,rfl,rfl⟩⟩
  ·simp [Value.cells]at hcs
   obtain ⟨rfl,rfl,rfl⟩:=hcs;exact ⟨zs,.inr ⟨_,rfl,hl,hm,by simpa using hz,hcell,Kt⟩⟩
 obtain ⟨a3,rfl,rfl,rfl,w3⟩:=open_int Tryz.underlying3 (hval 3 3 v3 rfl rfl) h3;obtain ⟨Xg,rfl,-⟩:=okWide_struct Tryz.underlying24 (hval 4 24 v4 rfl rfl);have k4:=h4;have lt4: ∀x∈p4,x.block<W.heap.size:=by obtain ⟨m,hm⟩:=k4;exact DataW.trod_lt m _ _ _ hm
 have W4:Wt d4 24:=fun n hn=>by
  have OZ:n∈DataW.weights Tryz.checked.prog 24 d4:=hn;have:=hall n (by simp [DataW.weightsEach,OZ]);simpa using this
 obtain ⟨x4,fN,w4⟩: ∃r:cq,(Value.agg Xg).cells.toList=r.cells∧(aA W r.ua r.uc r.aj∧fp [r.kind,r.hour,r.least,r.unit,r.length]):=by obtain ⟨fuel,hf⟩:=h4;exact Iw hf W4
 obtain rfl:Xg=x4.cells.toArray:=by
  have h:Xg.toList=x4.cells:=fN;rw [←h]
 obtain ⟨Xh,rfl,-⟩:=okWide_struct Tryz.underlying32 (hval 5 32 v5 rfl rfl);have k5:=h5;have lt5: ∀x∈p5,x.block<W.heap.size:=by obtain ⟨m,hm⟩:=k5;exact DataW.trod_lt m _ _ _ hm
 have W5:Wt d5 32:=fun n hn=>by
  have OZ:n∈DataW.weights Tryz.checked.prog 32 d5:=hn;have:=hall n (by simp [DataW.weightsEach,OZ]);simpa using this
 obtain ⟨x5,dA,w5⟩: ∃r:aq,(Value.agg Xh).cells.toList=r.cells∧(aT W r∧ ∀o∈r.outs,o.moves.length≤5900000000000):=by obtain ⟨fuel,hf⟩:=h5;exact EC hf W5
 obtain rfl:Xh=x5.cells.toArray:=by
  have h:Xh.toList=x5.cells:=dA;rw [←h]
 obtain ⟨a6,rfl,rfl,rfl⟩:=open_bool Tryz.underlying4 (hval 6 4 v6 rfl rfl) h6;clear Le z_;refine (walk a0 qM qN z0 a1 nJ qO z1 a2 EE EF z2 a3 x4 x5 a6 W w0 w1 w2 w3 w4 w5).mono fun e W' ⟨he,IZ⟩=> ?_;subst he;exact ⟨_,rfl,_,_,_,[],_,[],KG,trodAll_mk1 (shut_bool Tryz.underlying4 _),(trodAll_cons_mk (Below.trod Tryz.laidOut (by kernel_rfl) (of_decide_eq_true (by kernel_rfl)) k0 IZ WJ) (trodAll_cons_mk (Below.trod Tryz.laidOut (by kernel_rfl) (of_decide_eq_true (by kernel_rfl)) k1 IZ WK) (trodAll_cons_mk (Below.trod Tryz.laidOut (by kernel_rfl) (of_decide_eq_true (by kernel_rfl)) k2 IZ lt2) (trodAll_cons_mk (shut_int Tryz.underlying3 w3) (trodAll_cons_mk (Below.trod Tryz.laidOut (by kernel_rfl) (of_decide_eq_true (by kernel_rfl)) k4 IZ lt4) (trodAll_cons_mk (Below.trod Tryz.laidOut (by kernel_rfl) (of_decide_eq_true (by kernel_rfl)) k5 IZ lt5) (trodAll_cons_mk (shut_bool Tryz.underlying4 _) trodAll_mk0))))))),rfl,IZ.frame _,fun h=>by cases h⟩
theorem over:Rows.cutsValidRow.holds Tryz.pinned (OpenSpec.ofChange Rows.cutsValidSpec):=
 OpenClaim.holds_of_wide 3 Tryz.f3 rfl rfl rfl rfl rfl rfl rfl ⟨rfl,rfl,rfl,rfl,rfl⟩ rfl rfl rfl rfl rfl (by kernel_rfl) Tryz.func3 (by kernel_rfl)
  (of_decide_eq_true (by kernel_rfl)) (by unfold Func.isWrapper;first|(rw [if_pos (by decide+kernel)];kernel_rfl)|(rw [if_neg (by decide+kernel)];exact ⟨rfl,rfl⟩))
  (fun os started H enc _=>lifted os started H enc)
theorem proved:Rows.CutsValidSaid:=over
#print axioms proved
end Go.Proofs.YtkpngkdgphojlaaGreat.ED
