/- Texts of the proof. -/
import Derived.Test.YtkpngkdgphojlaaGreatCd11
set_option linter.all false
set_option maxHeartbeats 1000000
set_option maxRecDepth 100000
namespace Go.Proofs.YtkpngkdgphojlaaGreat
open Go.Proofs.Tryz
open Go.RowKit
open Classical in
noncomputable def yP (E:List (Nat×Nat)) (b:Nat):Bool:=decide (∀k,k<b→ ¬iH E k b)
open Classical in
theorem uI (E:List (Nat×Nat)) (b:Nat):yP E b=true↔ ∀k,k<b→ ¬iH E k b:=by unfold yP;exact decide_eq_true_iff
noncomputable def comps (n:Nat) (E:List (Nat×Nat)):Nat:=(List.range n).countP (yP E)
theorem j_.comps {n:Nat} {E:List (Nat×Nat)} {f:Nat→Nat} (h:j_ n E f):cls f n=Go.Proofs.YtkpngkdgphojlaaGreat.comps n E:=by
 unfold cls Go.Proofs.YtkpngkdgphojlaaGreat.comps;apply List.countP_congr;intro b hb;have FD:=List.mem_range.1 hb;rw [fE];rw [uI];constructor
 ·intro hf k hk hc;exact hf k hk ((h k b (by omega) FD).2 hc)
 ·intro hc k hk hf;exact hc k hk ((h k b (by omega) FD).1 hf)
theorem C3 {n:Nat} {E F:List (Nat×Nat)} (h: ∀p∈E,p∈F):comps n F≤comps n E:=by
 unfold comps;apply List.countP_mono_left;intro b _ hb;rw [uI]at*;intro k hk hc;exact hb k hk (hc.mono h)
theorem AE (n:Nat) (E:List (Nat×Nat)):comps n E≤n:=by
 unfold comps;have:=List.countP_le_length (p:=yP E) (l:=List.range n);rw [List.length_range]at this;exact this
def jl (f:Nat→Nat) (n:Nat):List Int:=(List.range n).map fun b=>((f b:Nat):Int)
theorem gp (f:Nat→Nat) (n:Nat):(jl f n).length=n:=by simp [jl]
theorem C4 (f:Nat→Nat) (n b:Nat) (h:b<n):aR (jl f n) b=((f b:Nat):Int):=by
 unfold aR jl;simp [h]
theorem jk.ints {w:World} {B:Nat} {f:Nat→Nat} {n:Nat} (h:jk w B f n) (hn:n≤1000000) (hf: ∀b,b<n→f b≤n):aD w (some ⟨B,0,none⟩) n (jl f n):=
 ⟨by rw [gp];exact Nat.le_refl _,by omega,fun i hi=>by
   have hi':i<n:=by rw [gp]at hi;exact hi
   refine ⟨B,0,rfl,?_⟩;rw [Nat.zero_add,(h.cell i hi').1];simp [jl],fun i hi=>by
   have hi':i<n:=by rw [gp]at hi;exact hi
   have:=hf i hi';simp [jl];omega⟩
theorem AG {n:Nat} {E:List (Nat×Nat)} {f:Nat→Nat} (h:jw n E f) (he: ∀p∈E,f p.1=f p.2):wH (jl f n) n=comps n E:=by
 rw [←(h.tells he).comps];unfold wH cls;apply List.countP_congr;intro b hb;have FD:=List.mem_range.1 hb;rw [C4 f n b FD,←h.first he b FD];simp only [beq_iff_eq];omega
def jx (E:List (Nat×Nat)) (gone:List Int):Nat→List (Nat×Nat)
 |0=> []
 |n+1=>if hasB gone n=true then jx E gone n else jx E gone n++ [E.getD n (0,0)]
theorem rh (E:List (Nat×Nat)) (gone:List Int): ∀n,n≤E.length→ ∀p∈jx E gone n,p∈E
 |0,_,p,h=>by simp [jx]at h
 |n+1,hn,p,h=>by
  unfold jx at h;split at h
  ·exact rh E gone n (by omega) p h
  ·rcases List.mem_append.1 h with h|h
   ·exact rh E gone n (by omega) p h
   ·rw [List.mem_singleton]at h
    subst h;rw [List.getD_eq_getElem?_getD,List.getElem?_eq_getElem (by omega)];exact List.getElem_mem _
theorem lZ (E:List (Nat×Nat)) (gone:List Int): ∀n,(jx E gone n).length≤n
 |0=>Nat.le_refl _
 |n+1=>by
  have:=lZ E gone n;unfold jx;split
  ·omega
  ·rw [List.length_append];simp;exact this
theorem wJ (E:List (Nat×Nat)) (p:Nat×Nat):er (E++ [p])=er E++ [[i64 ((p.1:Nat):Int),i64 ((p.2:Nat):Int)]]:=by simp [er]
noncomputable def H6 (n:Nat) (E:List (Nat×Nat)) (gone:List Int):Bool:=decide (comps n E<comps n (jx E gone E.length))
theorem wK (V:World) (n:Nat) (a:Option Addr) (c:Nat) (E:List (Nat×Nat)) (b:Option Addr) (cb:Nat) (gone:List Int) (hn:n≤1000000) (hE:E.length≤1000000) (hP:bS V 2 a c (er E)) (hb: ∀p∈E,p.1<n∧p.2<n) (hG:aD V b cb gone):
 Calls prog 64 #[.int .i64 (n:Int),.slice a E.length c,.slice b gone.length cb] V fun e w'=>e= .returned (.bool (H6 n E gone))∧Ext V w':=by
 have hle:=hP.le;have dy:=hP.cap
 rw [eh]at hle;have HP:=ae hP;have wC:=ae hb;have HG:=ae hG
 clear hP hb hG;go_enter func64,ntmps64
 go_wp2_with fail
 go_loopw [7,8] (fun v ii wr=> ∃i:Nat,i≤E.length∧aN wr V.heap.size 166 2 v (er (jx E gone i))∧Ext V wr∧ii= .int .i64 i) (fun _ ii _=>E.length-(intOf ii).toNat)
 case atStart=>exact ⟨0,Nat.zero_le _,aN.nil _ _ _ _,Ext.refl _,rfl⟩
 case round=>
  obtain ⟨i,hi,hown,hX,rfl⟩:=hrel;have HO:=ae hown;clear hown;by_cases hlt:i<E.length
  ·obtain ⟨pb,po,ha,r0,r1⟩:=sx (HP.o.ext hX) i hlt
   have ln:=ae (yC wr b cb gone (i:Int) (HG.o.ext hX))
   have HST:Hid (jx E gone (i+1)=if hasB gone i=true then jx E gone i else jx E gone i++ [E[i]]):=by
    show _=_;have:E.getD i (0,0)=E[i]:=by rw [List.getD_eq_getElem?_getD,List.getElem?_eq_getElem hlt];rfl
    rw [←this];rfl
   have PH:=ae (lZ E gone i);generalize jx E gone i=rs at*;obtain ⟨⟨x,y⟩,nN⟩: ∃p,p=E[i]:=⟨_,rfl⟩;rw [←nN]at r0 r1 HST;simp only at r0 r1;have f_:(0:Int)≤(i:Int):=by omega
   have fU:(i:Int)<(E.length:Int):=by omega
   have HE:=ae hX;have vX:=hX.size
   have qK:=ae ha;clear hX nN ha;rw [qK.o];rcases Bool.eq_false_or_eq_true (hasB gone i)with hq|hq
   ·rw [hq]at ln HST
    clear hq;go_wp2_with fail
    refine ln.o.mono ?_;rintro e w1 ⟨rfl,fK⟩;rw [fK];clear fK
    go_wp2_with fail
    exact ⟨⟨i+1,by omega,by rw [HST.o];simpa using HO.o,HE.o,by go_num⟩,by simp only [intOf];omega⟩
   ·rw [hq]at ln HST
    clear hq
    have HOW:Hid (wr.ownsRow V.heap.size 166 2 u7 rs.length (er rs).flatten):=by
     have h5:=HO.o.own;rw [eh]at h5;exact h5
    go_wp2_with fail
    refine ln.o.mono ?_;rintro e w1 ⟨rfl,fK⟩;rw [fK];clear fK
    go_wp2_with (at_builtin;refine aW _ rfl (.tmp 19) (.tmp 24) 108 rfl V.heap.size 166 (.agg #[i64 0,i64 0]) 2 16 underlying108 Tryz.info_pair rfl (by decide) u7 rs.length (er rs).flatten rfl ?c1 (some ⟨wr.heap.size,0,none⟩) 1 1 [i64 (x:Int),i64 (y:Int)] rfl rfl ?c2 ?c3 ?c4 ?c5 (by decide) ?c6 ?_;rotate_right;intro v1 w5 ho he hb hz hv)
    case c1=>exact bq HOW.o ((Ext.refl _).alloc _)
    case c2=>exact fun _=>⟨_,rfl,cu wr 166 [i64 (x:Int),i64 (y:Int)]⟩
    case c3=>intro u hu;simp only [List.mem_cons,List.not_mem_nil,or_false]at hu;rcases hu with rfl|rfl<;>rfl
    case c4=>intro e;cases e
    case c5=>have:=PH.o;omega
    case c6=>have:=vX;simp;omega
    have x5:Ext V w5:=he.o V (HE.o.alloc _) (Nat.le_refl _);have i5:=HO.o.snoc (w':=w5) (v':=v1) (r:= [i64 (x:Int),i64 (y:Int)]) rfl (by rw [eh];exact ho.o);rw [←wJ rs (x,y)]at i5;exact ⟨⟨i+1,by omega,by rw [HST.o];simpa using i5,x5,by go_num⟩,by simp only [intOf];omega⟩
  ·obtain rfl:i=E.length:=by omega
   obtain ⟨ra,rc,rfl,hS,-⟩:=HO.o.recs (by decide);rw [eh];have ov:=rh E gone E.length (Nat.le_refl _);have QJ:=lZ E gone E.length;have VR:Hid (H6 n E gone=decide (comps n E<comps n (jx E gone E.length))):=rfl;generalize jx E gone E.length=R at*;have Zw: ∀p∈R,p.1<n∧p.2<n:=fun p hp=>wC.o p (ov p hp);have Nt:=ae (sA wr n ra rc R hn (by omega) hS Zw);have HX:=ae hX;clear hS ov QJ Zw HO hX;go_wp2_with fail
   refine Nt.o.mono ?_;rintro e w1 ⟨B1,f1,rfl,Ee,x1,-,VS,Zx⟩;have Uh:=xG w1 _ n (jl f1 n) (Ee.ints hn (fun b hb=>Nat.le_trans (VS.le b hb) (by omega)));rw [gp,AG VS Zx]at Uh;have Uh:=ae Uh;have fJ:=ae (HX.o.trans x1);have KG:=AE n R;generalize comps n R=k1 at*;clear Ee x1 VS Zx Nt;go_wp2_with fail
   refine Uh.o.mono ?_;rintro e w2 ⟨rfl,hw2⟩;rw [hw2];clear hw2
   have Nu:=ae (sA w1 n a c E hn hE (HP.o.ext fJ.o) wC.o);go_wp2_with fail
   refine Nu.o.mono ?_;rintro e w3 ⟨B3,f3,rfl,AH,x3,-,hL3,Zy⟩;have PI:=xG w3 _ n (jl f3 n) (AH.ints hn (fun b hb=>Nat.le_trans (hL3.le b hb) (by omega)));rw [gp,AG hL3 Zy]at PI;have PI:=ae PI;have mS:=ae (fJ.o.trans x3);have hk2:=AE n E;generalize comps n E=k2 at*;clear AH x3 hL3 Zy Nu;go_wp2_with fail
   refine PI.o.mono ?_;rintro e w4 ⟨rfl,hw4⟩;rw [hw4];clear hw4
   go_wp2_with fail
   go_ret;exact ⟨by rw [VR.o];rfl,mS.o⟩
end Go.Proofs.YtkpngkdgphojlaaGreat
