/- Texts of the proof. -/
import Derived.Test.YtkpngkdgphojlaaGreatCf18
set_option linter.all false
set_option maxHeartbeats 1000000
set_option maxRecDepth 100000
namespace Go.Proofs.YtkpngkdgphojlaaGreat
open Go.Proofs.Tryz
open Go.RowKit
open Classical in
noncomputable def zA (E:List (Nat×Nat)) (b:Nat):Bool:=decide (∀k,k<b→ ¬jg E k b)
open Classical in
theorem vw (E:List (Nat×Nat)) (b:Nat):zA E b=true↔ ∀k,k<b→ ¬jg E k b:=by unfold zA;exact decide_eq_true_iff
noncomputable def comps (n:Nat) (E:List (Nat×Nat)):Nat:=(List.range n).countP (zA E)
theorem lg.comps {n:Nat} {E:List (Nat×Nat)} {f:Nat→Nat} (h:lg n E f):cls f n=Go.Proofs.YtkpngkdgphojlaaGreat.comps n E:=by
 unfold cls Go.Proofs.YtkpngkdgphojlaaGreat.comps;apply List.countP_congr;intro b hb;have SA:=List.mem_range.1 hb;rw [gJ];rw [vw];constructor
 ·intro hf k hk hc;exact hf k hk ((h k b (by omega) SA).2 hc)
 ·intro hc k hk hf;exact hc k hk ((h k b (by omega) SA).1 hf)
theorem Dw {n:Nat} {E F:List (Nat×Nat)} (h: ∀p∈E,p∈F):comps n F≤comps n E:=by
 unfold comps;apply List.countP_mono_left;intro b _ hb;rw [vw]at*;intro k hk hc;exact hb k hk (hc.mono h)
theorem Bq (n:Nat) (E:List (Nat×Nat)):comps n E≤n:=by
 unfold comps;have:=List.countP_le_length (p:=zA E) (l:=List.range n);rw [List.length_range]at this;exact this
def jV (f:Nat→Nat) (n:Nat):List Int:=(List.range n).map fun b=>((f b:Nat):Int)
theorem iq (f:Nat→Nat) (n:Nat):(jV f n).length=n:=by simp [jV]
theorem Dx (f:Nat→Nat) (n b:Nat) (h:b<n):jG (jV f n) b=((f b:Nat):Int):=by
 unfold jG jV;simp [h]
theorem jU.ints {w:World} {B:Nat} {f:Nat→Nat} {n:Nat} (h:jU w B f n) (hn:n≤1000000) (hf: ∀b,b<n→f b≤n):aI w (some ⟨B,0,none⟩) n (jV f n):=
 ⟨by rw [iq];exact Nat.le_refl _,by omega,fun i hi=>by
   have hi':i<n:=by rw [iq]at hi;exact hi
   refine ⟨B,0,rfl,?_⟩;rw [Nat.zero_add,(h.cell i hi').1];simp [jV],fun i hi=>by
   have hi':i<n:=by rw [iq]at hi;exact hi
   have:=hf i hi';simp [jV];omega⟩
theorem Br {n:Nat} {E:List (Nat×Nat)} {f:Nat→Nat} (h:kh n E f) (he: ∀p∈E,f p.1=f p.2):wZ (jV f n) n=comps n E:=by
 rw [←(h.tells he).comps];unfold wZ cls;apply List.countP_congr;intro b hb;have SA:=List.mem_range.1 hb;rw [Dx f n b SA,←h.first he b SA];simp only [beq_iff_eq];omega
def ki (E:List (Nat×Nat)) (gone:List Int):Nat→List (Nat×Nat)
 |0=> []
 |n+1=>if hasB gone n=true then ki E gone n else ki E gone n++ [E.getD n (0,0)]
theorem sK (E:List (Nat×Nat)) (gone:List Int): ∀n,n≤E.length→ ∀p∈ki E gone n,p∈E
 |0,_,p,h=>by simp [ki]at h
 |n+1,hn,p,h=>by
  unfold ki at h;split at h
  ·exact sK E gone n (by omega) p h
  ·rcases List.mem_append.1 h with h|h
   ·exact sK E gone n (by omega) p h
   ·rw [List.mem_singleton]at h
    subst h;rw [List.getD_eq_getElem?_getD,List.getElem?_eq_getElem (by omega)];exact List.getElem_mem _
theorem nh (E:List (Nat×Nat)) (gone:List Int): ∀n,(ki E gone n).length≤n
 |0=>Nat.le_refl _
 |n+1=>by
  have:=nh E gone n;unfold ki;split
  ·omega
  ·rw [List.length_append];simp;exact this
theorem xi (E:List (Nat×Nat)) (p:Nat×Nat):eR (E++ [p])=eR E++ [[i64 ((p.1:Nat):Int),i64 ((p.2:Nat):Int)]]:=by simp [eR]
noncomputable def Ja (n:Nat) (E:List (Nat×Nat)) (gone:List Int):Bool:=decide (comps n E<comps n (ki E gone E.length))
theorem xj (V:World) (n:Nat) (a:Option Addr) (c:Nat) (E:List (Nat×Nat)) (b:Option Addr) (cb:Nat) (gone:List Int) (hn:n≤1000000) (hE:E.length≤1000000) (hP:bH V 2 a c (eR E)) (hb: ∀p∈E,p.1<n∧p.2<n) (hG:aI V b cb gone):
 Calls prog 64 #[.int .i64 (n:Int),.slice a E.length c,.slice b gone.length cb] V fun e w'=>e= .returned (.bool (Ja n E gone))∧Ext V w':=by
 have hle:=hP.le;have dQ:=hP.cap
 rw [eN]at hle;have HP:=ae hP;have EN:=ae hb;have HG:=ae hG
 clear hP hb hG;go_enter func64,ntmps64
 go_wp2_with fail
 go_loopw [7,8] (fun v ii wr=> ∃i:Nat,i≤E.length∧aJ wr V.heap.size 166 2 v (eR (ki E gone i))∧Ext V wr∧ii= .int .i64 i) (fun _ ii _=>E.length-(intOf ii).toNat)
 case atStart=>exact ⟨0,Nat.zero_le _,aJ.nil _ _ _ _,Ext.refl _,rfl⟩
 case round=>
  obtain ⟨i,hi,hown,hX,rfl⟩:=hrel;have HO:=ae hown;clear hown;by_cases hlt:i<E.length
  ·obtain ⟨pb,po,ha,r0,r1⟩:=tM (HP.o.ext hX) i hlt
   have mE:=ae (za wr b cb gone (i:Int) (HG.o.ext hX))
   have HST:Hid (ki E gone (i+1)=if hasB gone i=true then ki E gone i else ki E gone i++ [E[i]]):=by
    show _=_;have:E.getD i (0,0)=E[i]:=by rw [List.getD_eq_getElem?_getD,List.getElem?_eq_getElem hlt];rfl
    rw [←this];rfl
   have Qh:=ae (nh E gone i);generalize ki E gone i=rs at*;obtain ⟨⟨x,y⟩,pF⟩: ∃p,p=E[i]:=⟨_,rfl⟩;rw [←pF]at r0 r1 HST;simp only at r0 r1;have jS:(0:Int)≤(i:Int):=by omega
   have jI:(i:Int)<(E.length:Int):=by omega
   have HE:=ae hX;have wJ:=hX.size
   have uF:=ae ha;clear hX pF ha;rw [uF.o];rcases Bool.eq_false_or_eq_true (hasB gone i)with hq|hq
   ·rw [hq]at mE HST
    clear hq;go_wp2_with fail
    refine mE.o.mono ?_;rintro e w1 ⟨rfl,gH⟩;rw [gH];clear gH
    go_wp2_with fail
    exact ⟨⟨i+1,by omega,by rw [HST.o];simpa using HO.o,HE.o,by go_num⟩,by simp only [intOf];omega⟩
   ·rw [hq]at mE HST
    clear hq
    have HOW:Hid (wr.ownsRow V.heap.size 166 2 u7 rs.length (eR rs).flatten):=by
     have h5:=HO.o.own;rw [eN]at h5;exact h5
    go_wp2_with fail
    refine mE.o.mono ?_;rintro e w1 ⟨rfl,gH⟩;rw [gH];clear gH
    go_wp2_with (at_builtin;refine bn _ rfl (.tmp 19) (.tmp 24) 108 rfl V.heap.size 166 (.agg #[i64 0,i64 0]) 2 16 underlying108 Tryz.info_pair rfl (by decide) u7 rs.length (eR rs).flatten rfl ?c1 (some ⟨wr.heap.size,0,none⟩) 1 1 [i64 (x:Int),i64 (y:Int)] rfl rfl ?c2 ?c3 ?c4 ?c5 (by decide) ?c6 ?_;rotate_right;intro v1 w5 ho he hb hz hv)
    case c1=>exact bW HOW.o ((Ext.refl _).alloc _)
    case c2=>exact fun _=>⟨_,rfl,dD wr 166 [i64 (x:Int),i64 (y:Int)]⟩
    case c3=>intro u hu;simp only [List.mem_cons,List.not_mem_nil,or_false]at hu;rcases hu with rfl|rfl<;>rfl
    case c4=>intro e;cases e
    case c5=>have:=Qh.o;omega
    case c6=>have:=wJ;simp;omega
    have x5:Ext V w5:=he.o V (HE.o.alloc _) (Nat.le_refl _);have kF:=HO.o.snoc (w':=w5) (v':=v1) (r:= [i64 (x:Int),i64 (y:Int)]) rfl (by rw [eN];exact ho.o);rw [←xi rs (x,y)]at kF;exact ⟨⟨i+1,by omega,by rw [HST.o];simpa using kF,x5,by go_num⟩,by simp only [intOf];omega⟩
  ·obtain rfl:i=E.length:=by omega
   obtain ⟨ra,rc,rfl,hS,-⟩:=HO.o.recs (by decide);rw [eN];have kL:=sK E gone E.length (Nat.le_refl _);have OC:=nh E gone E.length;have XM:Hid (Ja n E gone=decide (comps n E<comps n (ki E gone E.length))):=rfl;generalize ki E gone E.length=R at*;have hbR: ∀p∈R,p.1<n∧p.2<n:=fun p hp=>EN.o p (kL p hp);have Oz:=ae (tN wr n ra rc R hn (by omega) hS hbR);have HX:=ae hX;clear hS kL OC hbR HO hX;go_wp2_with fail
   refine Oz.o.mono ?_;rintro e w1 ⟨B1,f1,rfl,IQ,x1,-,XN,hE1⟩;have sO:=yi w1 _ n (jV f1 n) (IQ.ints hn (fun b hb=>Nat.le_trans (XN.le b hb) (by omega)));rw [iq,Br XN hE1]at sO;have sO:=ae sO;have eE:=ae (HX.o.trans x1);have K7:=Bq n R;generalize comps n R=k1 at*;clear IQ x1 XN hE1 Oz;go_wp2_with fail
   refine sO.o.mono ?_;rintro e w2 ⟨rfl,hw2⟩;rw [hw2];clear hw2
   have OA:=ae (tN w1 n a c E hn hE (HP.o.ext eE.o) EN.o);go_wp2_with fail
   refine OA.o.mono ?_;rintro e w3 ⟨B3,f3,rfl,IU,x3,-,hL3,hE3⟩;have Vl:=yi w3 _ n (jV f3 n) (IU.ints hn (fun b hb=>Nat.le_trans (hL3.le b hb) (by omega)));rw [iq,Br hL3 hE3]at Vl;have Vl:=ae Vl;have kX:=ae (eE.o.trans x3);have hk2:=Bq n E;generalize comps n E=k2 at*;clear IU x3 hL3 hE3 OA;go_wp2_with fail
   refine Vl.o.mono ?_;rintro e w4 ⟨rfl,hw4⟩;rw [hw4];clear hw4
   go_wp2_with fail
   go_ret;exact ⟨by rw [XM.o];rfl,kX.o⟩
end Go.Proofs.YtkpngkdgphojlaaGreat
