/- Texts of the proof. -/
import Derived.Test.YtfokdakioeoniaaGreatCj17
set_option linter.all false
set_option maxRecDepth 100000
namespace Go.Proofs.YtfokdakioeoniaaGreat
open Go.Proofs.Tryz
open Go.RowKit
structure fE (w:World) (r:bE) (q:Rat) (L:Nat):Prop where
 rat:fI w r q L
 k:r.k<=L
 j:r.j<=L
theorem fE.ext {w w':World} {r:bE} {q:Rat} {L:Nat} (h:fE w r q L) (x:Ext w w'):fE w' r q L:=⟨h.rat.ext x,h.k,h.j⟩
theorem fE.mono {w:World} {r:bE} {q:Rat} {L L':Nat} (h:fE w r q L) (hl:L<=L'):fE w r q L':=⟨h.rat.mono hl,Nat.le_trans h.k hl,Nat.le_trans h.j hl⟩
theorem fE.new {w w':World} {q:Rat} {e:Ending} {L:Nat} (h:bD q w e w') (hl:dW q<=L): ∃r:bE,e= .returned (.agg #[.bool r.s,.slice r.a r.k r.c,.slice r.b r.j r.d])/\fE w' r q L/\dO w' r q w.heap.size/\Ext w w':=by
 obtain ⟨a,c,a',c',rfl,h1,h2,h3,h4,h5⟩:=h;have hc:dO w' ⟨decide (q.num<0),a,len q.num.natAbs,c,a',len q.den,c'⟩ q w.heap.size:=⟨rfl,rfl,rfl,h1,h3,h2,h4⟩;have hs:=hc.short hl;exact ⟨⟨decide (q.num<0),a,len q.num.natAbs,c,a',len q.den,c'⟩,rfl,⟨hc.lZ.mono hl,hs.1,hs.2⟩,hc,h5⟩
theorem LW (V:World) (r:bE) (q:Rat) (L:Nat) (h:fE V r q L) (hL:L<=1000):
 Calls prog 21 #[.agg #[.bool r.s,.slice r.a r.k r.c,.slice r.b r.j r.d]] V λe w'=>e= .returned (.int .i64 q.num.sign)/\Ext V w':=by
 obtain ⟨⟨n,m,a1,a2,rfl,a3,a4⟩,ak,aj⟩:=h;exact uQ V _ _ _ _ _ _ _ _ _ a1 a2 ae ae
theorem LX (V:World):Calls prog 17 #[] V λe w'=> ∃r2:bE,e= .returned (.agg #[.bool r2.s,.slice r2.a r2.k r2.c,.slice r2.b r2.j r2.d])/\fE w' r2 0 1/\dO w' r2 0 V.heap.size/\Ext V w':=
 (Ds V).mono λe w' hh=>fE.new hh (by have:=gi 0;rw [show((0:Int):Rat)=0 from rfl]at this;rw [this];decide)
end Go.Proofs.YtfokdakioeoniaaGreat
namespace Go.Proofs.YtfokdakioeoniaaGreat.settlementAny
open Go Go.ChangeShapes Go.WideShapes Go.ChangeAt Go.RowKit
theorem V_:(Rows.settlementAnyRow.named==Tryz.pinned.checked.prog.varsNamed 4)=true:=aw
end Go.Proofs.YtfokdakioeoniaaGreat.settlementAny
namespace Go.Proofs.YtfokdakioeoniaaGreat.settlementAny
open Go Go.ChangeShapes Go.WideShapes Go.ChangeAt Go.RowKit
theorem f1:((λ(P:Program) (f:FuncId) (fn:Func) (s:ChangeSpec) (c:OpenClaim)=>((c.wf (OpenSpec.ofChange s)):Bool)) Tryz.pinned.checked.prog 4 Tryz.f4 Rows.settlementAnySpec Rows.settlementAnyRow)=true:=aw
theorem f5:((λ(P:Program) (f:FuncId) (fn:Func) (s:ChangeSpec) (c:OpenClaim)=>((namedTie P c.named s.vars):Bool)) Tryz.pinned.checked.prog 4 Tryz.f4 Rows.settlementAnySpec Rows.settlementAnyRow)=true:=aw
theorem f9:((λ(P:Program) (f:FuncId) (fn:Func) (s:ChangeSpec) (c:OpenClaim)=>(((P.stopKnobs== [])):Bool)) Tryz.pinned.checked.prog 4 Tryz.f4 Rows.settlementAnySpec Rows.settlementAnyRow)=true:=aw
theorem f17:((λ(P:Program) (f:FuncId) (fn:Func) (s:ChangeSpec) (c:OpenClaim)=>(((c.loops==(fn.params.toList++s.plain.varTypes P).any (λq=>P.loopsFrom q))):Bool)) Tryz.pinned.checked.prog 4 Tryz.f4 Rows.settlementAnySpec Rows.settlementAnyRow)=true:=aw
theorem f21:((λ(P:Program) (f:FuncId) (fn:Func) (s:ChangeSpec) (c:OpenClaim)=>(((c.ifacesOut==fn.resultTypes.toList.any (λq=>P.ifacesRec q))):Bool)) Tryz.pinned.checked.prog 4 Tryz.f4 Rows.settlementAnySpec Rows.settlementAnyRow)=true:=aw
theorem f25:((λ(P:Program) (f:FuncId) (fn:Func) (s:ChangeSpec) (c:OpenClaim)=>((P.stopsHeard):Bool)) Tryz.pinned.checked.prog 4 Tryz.f4 Rows.settlementAnySpec Rows.settlementAnyRow)=true:=aw
theorem f29:((λ(P:Program) (f:FuncId) (fn:Func) (s:ChangeSpec) (c:OpenClaim)=>(((c.kinds==(if c.domain.isEmpty then []else fn.params.toList.map λt=>match P.underlying t with|some (.int k)=>some k|_=>none))):Bool)) Tryz.pinned.checked.prog 4 Tryz.f4 Rows.settlementAnySpec Rows.settlementAnyRow)=true:=aw
end Go.Proofs.YtfokdakioeoniaaGreat.settlementAny
namespace Go.Proofs.YtfokdakioeoniaaGreat.settlementAny
open Go Go.ChangeShapes Go.WideShapes Go.ChangeAt Go.RowKit
theorem f2:((λ(P:Program) (f:FuncId) (fn:Func) (s:ChangeSpec) (c:OpenClaim)=>((laidOutB P):Bool)) Tryz.pinned.checked.prog 4 Tryz.f4 Rows.settlementAnySpec Rows.settlementAnyRow)=true:=aw
theorem f6:((λ(P:Program) (f:FuncId) (fn:Func) (s:ChangeSpec) (c:OpenClaim)=>(((c.stops== [])):Bool)) Tryz.pinned.checked.prog 4 Tryz.f4 Rows.settlementAnySpec Rows.settlementAnyRow)=true:=aw
theorem f14:((λ(P:Program) (f:FuncId) (fn:Func) (s:ChangeSpec) (c:OpenClaim)=>(((c.maps==(fn.params.toList++s.plain.varTypes P).any (λq=>P.mapsRec q))):Bool)) Tryz.pinned.checked.prog 4 Tryz.f4 Rows.settlementAnySpec Rows.settlementAnyRow)=true:=aw
theorem f18:((λ(P:Program) (f:FuncId) (fn:Func) (s:ChangeSpec) (c:OpenClaim)=>(((c.wideKeys==(fn.params.toList++s.plain.varTypes P++fn.resultTypes.toList).any (λq=>P.wideKeysFrom q))):Bool)) Tryz.pinned.checked.prog 4 Tryz.f4 Rows.settlementAnySpec Rows.settlementAnyRow)=true:=aw
theorem f22:((λ(P:Program) (f:FuncId) (fn:Func) (s:ChangeSpec) (c:OpenClaim)=>(((c.loopsOut==fn.resultTypes.toList.any (λq=>P.loopsFrom q))):Bool)) Tryz.pinned.checked.prog 4 Tryz.f4 Rows.settlementAnySpec Rows.settlementAnyRow)=true:=aw
theorem f26:((λ(P:Program) (f:FuncId) (fn:Func) (s:ChangeSpec) (c:OpenClaim)=>((P.mayEnter):Bool)) Tryz.pinned.checked.prog 4 Tryz.f4 Rows.settlementAnySpec Rows.settlementAnyRow)=true:=aw
theorem f30:((λ(P:Program) (f:FuncId) (fn:Func) (s:ChangeSpec) (c:OpenClaim)=>(((c.pinned==c.pinnedBy)):Bool)) Tryz.pinned.checked.prog 4 Tryz.f4 Rows.settlementAnySpec Rows.settlementAnyRow)=true:=aw
end Go.Proofs.YtfokdakioeoniaaGreat.settlementAny
namespace Go.Proofs.YtfokdakioeoniaaGreat.settlementAny
open Go Go.ChangeShapes Go.WideShapes Go.ChangeAt Go.RowKit
theorem f3:((λ(P:Program) (f:FuncId) (fn:Func) (s:ChangeSpec) (c:OpenClaim)=>((mapsRowed P):Bool)) Tryz.pinned.checked.prog 4 Tryz.f4 Rows.settlementAnySpec Rows.settlementAnyRow)=true:=aw
theorem f7:((λ(P:Program) (f:FuncId) (fn:Func) (s:ChangeSpec) (c:OpenClaim)=>(((P.stops== [])):Bool)) Tryz.pinned.checked.prog 4 Tryz.f4 Rows.settlementAnySpec Rows.settlementAnyRow)=true:=aw
theorem f15:((λ(P:Program) (f:FuncId) (fn:Func) (s:ChangeSpec) (c:OpenClaim)=>(((c.ifaces==(fn.params.toList++s.plain.varTypes P).any (λq=>P.ifacesRec q))):Bool)) Tryz.pinned.checked.prog 4 Tryz.f4 Rows.settlementAnySpec Rows.settlementAnyRow)=true:=aw
theorem f19:((λ(P:Program) (f:FuncId) (fn:Func) (s:ChangeSpec) (c:OpenClaim)=>((s.vars.all (λq=>P.varReadable q)):Bool)) Tryz.pinned.checked.prog 4 Tryz.f4 Rows.settlementAnySpec Rows.settlementAnyRow)=true:=aw
theorem f23:((λ(P:Program) (f:FuncId) (fn:Func) (s:ChangeSpec) (c:OpenClaim)=>(((c.plainKeys==P.plainKeys)):Bool)) Tryz.pinned.checked.prog 4 Tryz.f4 Rows.settlementAnySpec Rows.settlementAnyRow)=true:=aw
theorem f27:((λ(P:Program) (f:FuncId) (fn:Func) (s:ChangeSpec) (c:OpenClaim)=>(((c.lifted==P.liftsFinal)):Bool)) Tryz.pinned.checked.prog 4 Tryz.f4 Rows.settlementAnySpec Rows.settlementAnyRow)=true:=aw
theorem f31:((λ(P:Program) (f:FuncId) (fn:Func) (s:ChangeSpec) (c:OpenClaim)=>(((c.veiled==(fn.params.toList++s.plain.varTypes P++fn.resultTypes.toList).any (λq=>P.veiledRec q))):Bool)) Tryz.pinned.checked.prog 4 Tryz.f4 Rows.settlementAnySpec Rows.settlementAnyRow)=true:=aw
end Go.Proofs.YtfokdakioeoniaaGreat.settlementAny
namespace Go.Proofs.YtfokdakioeoniaaGreat.settlementAny
open Go Go.ChangeShapes Go.WideShapes Go.ChangeAt Go.RowKit
theorem f4:((λ(P:Program) (f:FuncId) (fn:Func) (s:ChangeSpec) (c:OpenClaim)=>((fn.params.all (λq=>P.readableRec q)):Bool)) Tryz.pinned.checked.prog 4 Tryz.f4 Rows.settlementAnySpec Rows.settlementAnyRow)=true:=aw
theorem f8:((λ(P:Program) (f:FuncId) (fn:Func) (s:ChangeSpec) (c:OpenClaim)=>(((c.knobs== [])):Bool)) Tryz.pinned.checked.prog 4 Tryz.f4 Rows.settlementAnySpec Rows.settlementAnyRow)=true:=aw
theorem f16:((λ(P:Program) (f:FuncId) (fn:Func) (s:ChangeSpec) (c:OpenClaim)=>(((c.mapsOut==P.mapsAmong fn.resultTypes.toList)):Bool)) Tryz.pinned.checked.prog 4 Tryz.f4 Rows.settlementAnySpec Rows.settlementAnyRow)=true:=aw
theorem f20:((λ(P:Program) (f:FuncId) (fn:Func) (s:ChangeSpec) (c:OpenClaim)=>((fn.resultTypes.all (λt=>P.readableRec t&&decide (t<P.types.size))):Bool)) Tryz.pinned.checked.prog 4 Tryz.f4 Rows.settlementAnySpec Rows.settlementAnyRow)=true:=aw
theorem f24:((λ(P:Program) (f:FuncId) (fn:Func) (s:ChangeSpec) (c:OpenClaim)=>((c.shortTexts.isNone):Bool)) Tryz.pinned.checked.prog 4 Tryz.f4 Rows.settlementAnySpec Rows.settlementAnyRow)=true:=aw
theorem f28:((λ(P:Program) (f:FuncId) (fn:Func) (s:ChangeSpec) (c:OpenClaim)=>(((P.make==some c.make)):Bool)) Tryz.pinned.checked.prog 4 Tryz.f4 Rows.settlementAnySpec Rows.settlementAnyRow)=true:=aw
theorem f32:((λ(P:Program) (f:FuncId) (fn:Func) (s:ChangeSpec) (c:OpenClaim)=>((c.veiledFits P fn.params.toList (fn.params.toList++s.plain.varTypes P++fn.resultTypes.toList)):Bool)) Tryz.pinned.checked.prog 4 Tryz.f4 Rows.settlementAnySpec Rows.settlementAnyRow)=true:=aw
end Go.Proofs.YtfokdakioeoniaaGreat.settlementAny
namespace Go.Proofs.YtfokdakioeoniaaGreat.settlementAny
open Go Go.ChangeShapes Go.WideShapes Go.ChangeAt Go.RowKit
theorem km {a b:Bool} (h:a=true) (k:b=true):(a&&b)=true:=by rw [h,k];rfl
theorem closed:joinedFacts Tryz.pinned.checked.prog 4 Tryz.f4 Rows.settlementAnySpec Rows.settlementAnyRow=true:=(km (km (km (km (km (km (km (km (km (km (km (km (km (km (km (km (km (km (km (km (km (km (km (km (km (km (km (km (km (km (km f1 f2) f3) f4) f5) f6) f7) f8) f9) Qd) Ho) Nh) V_) f14) f15) f16) f17) f18) f19) f20) f21) f22) f23) f24) f25) f26) f27) f28) f29) f30) f31) f32)
end Go.Proofs.YtfokdakioeoniaaGreat.settlementAny
