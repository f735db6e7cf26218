/- Texts of the proof. -/
import Derived.Test.YtbnamicbjaaelaaGreatCg17
set_option linter.all false
set_option maxHeartbeats 1000000
set_option maxRecDepth 100000
namespace Go.Proofs.YtbnamicbjaaelaaGreat
open Go.Proofs.Tryz
open Go.RowKit
open Classical in
noncomputable def BI (E:List (Nat×Nat)) (b:Nat):Bool:=decide (∀k,k<b-> ¬jr E k b)
open Classical in
theorem xA (E:List (Nat×Nat)) (b:Nat):BI E b=true↔ ∀k,k<b-> ¬jr E k b:=by unfold BI;exact decide_eq_true_iff
noncomputable def comps (n:Nat) (E:List (Nat×Nat)):Nat:=(List.range n).countP (BI E)
theorem lr.comps {n:Nat} {E:List (Nat×Nat)} {f:Nat->Nat} (h:lr n E f):cls f n=Go.Proofs.YtbnamicbjaaelaaGreat.comps n E:=by
 unfold cls Go.Proofs.YtbnamicbjaaelaaGreat.comps;apply List.countP_congr;intro b hb;have Vg:=List.mem_range.1 hb;rw [gP];rw [xA];constructor
 .intro hf k hk hc;exact hf k hk ((h k b ae Vg).2 hc)
 .intro hc k hk hf;exact hc k hk ((h k b ae Vg).1 hf)
theorem FW {n:Nat} {E F:List (Nat×Nat)} (h: ∀p∈E,p∈F):comps n F<=comps n E:=by
 unfold comps;apply List.countP_mono_left;intro b _ hb;rw [xA]at*;intro k hk hc;exact hb k hk (hc.mono h)
theorem DA (n:Nat) (E:List (Nat×Nat)):comps n E<=n:=by
 unfold comps;have:=List.countP_le_length (p:=BI E) (l:=List.range n);rw [List.length_range]at this;exact this
def j4 (f:Nat->Nat) (n:Nat):List Int:=(List.range n).map λb=>((f b:Nat):Int)
theorem iz (f:Nat->Nat) (n:Nat):(j4 f n).length=n:=by simp [j4]
theorem FX (f:Nat->Nat) (n b:Nat) (h:b<n):gw (j4 f n) b=((f b:Nat):Int):=by
 unfold gw j4;simp [h]
theorem j3.ints {w:World} {B:Nat} {f:Nat->Nat} {n:Nat} (h:j3 w B f n) (hn:n<=1000000) (hf: ∀b,b<n->f b<=n):aS w (some ⟨B,0,none⟩) n (j4 f n):=
 ⟨by rw [iz];exact bY,ae,λi hi=>by
   have hi':i<n:=by rw [iz]at hi;exact hi
   refine ⟨B,0,rfl,?_⟩;rw [Nat.zero_add,(h.cell i hi').1];simp [j4],λi hi=>by
   have hi':i<n:=by rw [iz]at hi;exact hi
   have:=hf i hi';simp [j4];omega⟩
theorem DB {n:Nat} {E:List (Nat×Nat)} {f:Nat->Nat} (h:km n E f) (he: ∀p∈E,f p.1=f p.2):yS (j4 f n) n=comps n E:=by
 rw [<-(h.tells he).comps];unfold yS cls;apply List.countP_congr;intro b hb;have Vg:=List.mem_range.1 hb;rw [FX f n b Vg,<-h.first he b Vg];simp only [beq_iff_eq];omega
def kn (E:List (Nat×Nat)) (gone:List Int):Nat->List (Nat×Nat)
 |0=> []
 |n+1=>if hasB gone n=true then kn E gone n else kn E gone n++ [E.getD n (0,0)]
theorem uh (E:List (Nat×Nat)) (gone:List Int): ∀n,n<=E.length-> ∀p∈kn E gone n,p∈E
 |0,_,p,h=>by simp [kn]at h
 |n+1,hn,p,h=>by
  unfold kn at h;split at h
  .exact uh E gone n ae p h
  .rcases List.mem_append.1 h with h|h
   .exact uh E gone n ae p h
   .rw [List.mem_singleton]at h
    subst h;rw [List.getD_eq_getElem?_getD,List.getElem?_eq_getElem ae];exact List.getElem_mem _
theorem nG (E:List (Nat×Nat)) (gone:List Int): ∀n,(kn E gone n).length<=n
 |0=>bY
 |n+1=>by
  have:=nG E gone n;unfold kn;split
  .omega
  .rw [List.length_append];simp;exact this
theorem yU (E:List (Nat×Nat)) (p:Nat×Nat):fz (E++ [p])=fz E++ [[i64 ((p.1:Nat):Int),i64 ((p.2:Nat):Int)]]:=by simp [fz]
noncomputable def LR (n:Nat) (E:List (Nat×Nat)) (gone:List Int):Bool:=decide (comps n E<comps n (kn E gone E.length))
theorem yX (V:World) (n:Nat) (a:Option Addr) (c:Nat) (E:List (Nat×Nat)) (b:Option Addr) (cb:Nat) (gone:List Int) (hn:n<=1000000) (hE:E.length<=1000000) (hP:ct V 2 a c (fz E)) (hb: ∀p∈E,p.1<n/\p.2<n) (hG:aS V b cb gone):
 Calls prog 66 #[.int .i64 (n:Int),.slice a E.length c,.slice b gone.length cb] V λe w'=>e= .returned (.bool (LR n E gone))/\Ext V w':=by
 have hle:=hP.le;have dS:=hP.cap
 rw [fu]at hle;have HP:=ah hP;have qB:=ah hb;have HG:=ah hG
 clear hP hb hG;go_enter func66,ntmps66
 go_wp2
 go_loopw [7,8] (λv ii wr=> ∃i:Nat,i<=E.length/\aL wr V.heap.size 163 2 v (fz (kn E gone i))/\Ext V wr/\ii= .int .i64 i) (λ_ ii _=>E.length-(intOf ii).toNat)
 case atStart=>exact ⟨0,aZ,aL.nil _ _ _ _,ar,rfl⟩
 case round=>
  obtain ⟨i,hi,hown,hX,rfl⟩:=hrel;have HO:=ah hown;clear hown;by_cases hlt:i<E.length
  .obtain ⟨pb,po,ha,r0,r1⟩:=uP (HP.o.ext hX) i hlt
   have jg:=ah (Bp wr b cb gone (i:Int) (HG.o.ext hX))
   have HST:Hid (kn E gone (i+1)=if hasB gone i=true then kn E gone i else kn E gone i++ [E[i]]):=by
    show _=_;have:E.getD i (0,0)=E[i]:=by rw [List.getD_eq_getElem?_getD,List.getElem?_eq_getElem hlt];rfl
    rw [<-this];rfl
   have Jh:=ah (nG E gone i);generalize kn E gone i=rs at*;obtain ⟨⟨x,y⟩,mG⟩: ∃p,p=E[i]:=⟨_,rfl⟩;rw [<-mG]at r0 r1 HST;simp only at r0 r1;have iM:(0:Int)<=(i:Int):=ae;have iK:(i:Int)<(E.length:Int):=ae;have HE:=ah hX;have vY:=hX.size
   have uL:=ah ha;clear hX mG ha;rw [uL.o];rcases Bool.eq_false_or_eq_true (hasB gone i)with hq|hq
   .rw [hq]at jg HST
    clear hq;go_wp2_with fail
    refine jg.o.mono ?_;rintro e w1 ⟨rfl,eL⟩;rw [eL];clear eL
    go_wp2
    exact ⟨⟨i+1,ae,by rw [HST.o];simpa using HO.o,HE.o,bf⟩,a_⟩
   .rw [hq]at jg HST
    clear hq
    have HOW:Hid (wr.ownsRow V.heap.size 163 2 u7 rs.length (fz rs).flatten):=by
     have h5:=HO.o.own;rw [fu]at h5;exact h5
    go_wp2_with fail
    refine jg.o.mono ?_;rintro e w1 ⟨rfl,eL⟩;rw [eL];clear eL
    go_wp2_with (at_builtin;refine bC _ rfl (.tmp 19) (.tmp 24) 122 rfl V.heap.size 163 (.agg #[i64 0,i64 0]) 2 16 underlying122 Tryz.info_pair rfl aq u7 rs.length (fz rs).flatten rfl ?c1 (some ⟨wr.heap.size,0,none⟩) 1 1 [i64 (x:Int),i64 (y:Int)] rfl rfl ?c2 ?c3 ?c4 ?c5 aq ?c6 ?_;rotate_right;intro v1 w5 ho he hb hz hv)
    case c1=>exact bZ HOW.o (ar.alloc _)
    case c2=>exact λ_=>⟨_,rfl,dH wr 163 [i64 (x:Int),i64 (y:Int)]⟩
    case c3=>intro u hu;simp only [List.mem_cons,List.not_mem_nil,or_false]at hu;rcases hu with rfl|rfl<;>rfl
    case c4=>intro e;cases e
    case c5=>have:=Jh.o;omega
    case c6=>have:=vY;simp;omega
    have x5:Ext V w5:=he.o V (HE.o.alloc _) bY;have jl:=HO.o.snoc (w':=w5) (v':=v1) (r:= [i64 (x:Int),i64 (y:Int)]) rfl (by rw [fu];exact ho.o);rw [<-yU rs (x,y)]at jl;exact ⟨⟨i+1,ae,by rw [HST.o];simpa using jl,x5,bf⟩,a_⟩
  .obtain rfl:i=E.length:=ae
   obtain ⟨ra,rc,rfl,hS,-⟩:=HO.o.recs aq;rw [fu];have mE:=uh E gone E.length bY;have Kf:=nG E gone E.length;have aa1:Hid (LR n E gone=decide (comps n E<comps n (kn E gone E.length))):=rfl;generalize kn E gone E.length=R at*;have hbR: ∀p∈R,p.1<n/\p.2<n:=λp hp=>qB.o p (mE p hp);have BG:=ah (uQ wr n ra rc R hn ae hS hbR);have HX:=ah hX;clear hS mE Kf hbR HO hX;go_wp2_with fail
   refine BG.o.mono ?_;rintro e w1 ⟨B1,f1,rfl,Ha,x1,-,hL1,hE1⟩;have zq:=zZ w1 _ n (j4 f1 n) (Ha.ints hn (λb hb=>Nat.le_trans (hL1.le b hb) ae));rw [iz,DB hL1 hE1]at zq;have zq:=ah zq;have eC:=ah (HX.o.trans x1);have zI:=DA n R;generalize comps n R=k1 at*;clear Ha x1 hL1 hE1 BG;go_wp2_with fail
   refine zq.o.mono ?_;rintro e w2 ⟨rfl,hw2⟩;rw [hw2];clear hw2
   have Ja:=ah (uQ w1 n a c E hn hE (HP.o.ext eC.o) qB.o);go_wp2_with fail
   refine Ja.o.mono ?_;rintro e w3 ⟨B3,f3,rfl,LS,x3,-,hL3,Vh⟩;have RM:=zZ w3 _ n (j4 f3 n) (LS.ints hn (λb hb=>Nat.le_trans (hL3.le b hb) ae));rw [iz,DB hL3 Vh]at RM;have RM:=ah RM;have kR:=ah (eC.o.trans x3);have hk2:=DA n E;generalize comps n E=k2 at*;clear LS x3 hL3 Vh Ja;go_wp2_with fail
   refine RM.o.mono ?_;rintro e w4 ⟨rfl,hw4⟩;rw [hw4];clear hw4
   go_wp2
   go_ret;exact ⟨by rw [aa1.o];rfl,kR.o⟩
