/- SettlementAccounts: for every small case and every case that is made of numbers: the accounts are the reference's, or the errors. No condition. -/
import Derived.SizedLaws
import Derived.Test.YtkpngkdgphojlaaGreatCf54
import Derived.Test.YtkpngkdgphojlaaGreatCf55
set_option linter.all false
set_option maxRecDepth 100000
namespace Go.Proofs.YtkpngkdgphojlaaGreat.settlementAccounts
open Go.ChangeShapes Go.WideShapes Go.ChangeAt Go.RowKit
theorem walk (x0:ai) (a1:Option Addr) (n4 Hv:Nat) (z1:List Int) (a2:Bool) (w:World) (w0:a_ w x0∧ ∀o∈x0.outs,o.moves.length≤5900000000000) (w1:FV .i64 w a1 n4 Hv z1):
 Calls Tryz.prog 5 #[.agg x0.cells.toArray,.slice a1 n4 Hv,.bool a2] w fun e w'=>e= .returned (.bool true)∧Below w.heap.size w w':=by
 obtain ⟨wM,hI1⟩:=w1.UC;have h:=mh w x0 a1 Hv (z1.take n4) a2 w0.1 w0.2 hI1;rw [wM]at h;exact h.mono fun _ _ ⟨he,hx⟩=>⟨he,hx.below⟩
theorem lifted (os:Os) (started:os.Started) (H:Type) (enc:TypeId×Value→H):
 ReturnsInHanded {} Tryz.checked os 5 .any (Rows.settlementAccountsSpec.pre6 enc Tryz.prog Tryz.f5 Rows.settlementAccountsRow.domain false) (Rows.settlementAccountsSpec.post enc Tryz.prog Tryz.f5 false true false false):=by
 refine returnsInHanded_of_change_sized (C:=Tryz.checked) Tryz.own started (by kernel_rfl) Tryz.func5
  (ChangeSpec.witness6 (enc:=enc) (C:=Tryz.checked) false ⟨#[],#[.agg #[i64 0,.slice none 0 0,.slice none 0 0,.slice none 0 0,.slice none 0 0,.slice none 0 0,.slice none 0 0,.slice none 0 0],.slice none 0 0,.bool false],[]⟩ 16 (by kernel_rfl) (by kernel_rfl) (by kernel_rfl) (by kernel_rfl)) ?_
 intro W base args ds gs before NQ hW hcnd hsz _;have hval: ∀(j:Nat) t v,Tryz.f5.params[j]?=some t→args[j]?=some v→Value.okWide Tryz.prog W .any base t v:=NQ;have PZ:=hW;obtain ⟨p,q,Vt,hV,rfl,rF,hnd⟩:=hW;have hA:DataW.TrodAll enc Tryz.prog W 0 (fun _=>true) true Tryz.f5.params.toList args.toList ds p:=Vt;rw [Tryz.params5]at hA hval hsz;obtain ⟨v0,vs0,d0,ds0,p0,q0,ade,rfl,rfl,h0,r0⟩:=trodAll_cons hA;obtain ⟨v1,vs1,d1,ds1,p1,q1,rfl,rfl,rfl,h1,r1⟩:=trodAll_cons r0;obtain ⟨v2,vs2,d2,ds2,p2,q2,rfl,rfl,rfl,h2,r2⟩:=trodAll_cons r1;obtain ⟨rfl,rfl,rfl⟩:=trodAll_nil r2;obtain rfl:args= #[v0,v1,v2]:=by cases args;simp_all
 obtain ⟨rfl,rfl⟩:=trodVars_none hV;have hall:=List.all_eq_true.1 hsz;obtain ⟨a1,n4,Hv,rfl⟩:=okWide_slice Tryz.underlying22 (hval 1 22 v1 rfl rfl);have k1:=h1;have lt1: ∀x∈p1,x.block<W.heap.size:=by obtain ⟨m,hm⟩:=k1;exact DataW.trod_lt m _ _ _ hm
 obtain ⟨z1,w1⟩: ∃zs,FV .i64 W a1 n4 Hv zs:=by
  obtain ⟨fuel,hf⟩:=h1;rcases open_ints Tryz.underlying22 Tryz.underlying3 (by kernel_rfl) hf with⟨hcs,_⟩|⟨x,l,c,zs,hcs,_,hl,hm,hz,_,hcell,hwz⟩
  ·simp [Value.cells]at hcs
   obtain ⟨rfl,rfl,rfl⟩:=hcs;exact ⟨[],.inl ⟨rfl,rfl,rfl,rfl⟩⟩
  ·simp [Value.cells]at hcs
   obtain ⟨rfl,rfl,rfl⟩:=hcs;exact ⟨zs,.inr ⟨_,rfl,hl,hm,by simpa using hz,hcell,hwz⟩⟩
 obtain ⟨a2,rfl,rfl,rfl⟩:=open_bool Tryz.underlying4 (hval 2 4 v2 rfl rfl) h2;obtain ⟨cs0,rfl,-⟩:=okWide_struct Tryz.underlying32 (hval 0 32 v0 rfl rfl);have k0:=h0;have lt0: ∀x∈p0,x.block<W.heap.size:=by obtain ⟨m,hm⟩:=k0;exact DataW.trod_lt m _ _ _ hm
 have W0:Wt d0 32:=fun n hn=>by
  have NW:n∈DataW.weights Tryz.checked.prog 32 d0:=hn;have:=hall n (by simp [DataW.weightsEach,NW]);simpa using this
 obtain ⟨x0,hx0,w0⟩: ∃r:ai,(Value.agg cs0).cells.toList=r.cells∧(a_ W r∧ ∀o∈r.outs,o.moves.length≤5900000000000):=by obtain ⟨fuel,hf⟩:=h0;exact Hu hf W0
 obtain rfl:cs0=x0.cells.toArray:=by
  have h:cs0.toList=x0.cells:=hx0;rw [←h]
 clear Vt NQ;refine (walk x0 a1 n4 Hv z1 a2 W w0 w1).mono fun e W' ⟨he,bel⟩=> ?_;subst he;exact ⟨_,rfl,_,_,_,[],_,[],PZ,trodAll_mk1 (shut_bool Tryz.underlying4 _),(trodAll_cons_mk (Below.trod Tryz.laidOut (by kernel_rfl) (of_decide_eq_true (by kernel_rfl)) k0 bel lt0) (trodAll_cons_mk (Below.trod Tryz.laidOut (by kernel_rfl) (of_decide_eq_true (by kernel_rfl)) k1 bel lt1) (trodAll_cons_mk (shut_bool Tryz.underlying4 _) trodAll_mk0))),rfl,bel.frame _,fun h=>by cases h⟩
theorem over:Rows.settlementAccountsRow.holds Tryz.pinned (OpenSpec.ofChange Rows.settlementAccountsSpec):=
 OpenClaim.holds_of_wide 5 Tryz.f5 rfl rfl rfl rfl rfl rfl rfl ⟨rfl,rfl,rfl,rfl,rfl⟩ rfl rfl rfl rfl rfl (by kernel_rfl) Tryz.func5 (by kernel_rfl)
  (of_decide_eq_true (by kernel_rfl)) (by unfold Func.isWrapper;first|(rw [if_pos (by decide+kernel)];kernel_rfl)|(rw [if_neg (by decide+kernel)];exact ⟨rfl,rfl⟩))
  (fun os started H enc _=>lifted os started H enc)
theorem proved:Rows.SettlementAccountsSaid:=over
#print axioms proved
end Go.Proofs.YtkpngkdgphojlaaGreat.settlementAccounts
