/- Texts of the proof. -/
import Derived.Test.YtbnamicbjaaelaaGreatCg40
import Derived.Test.YtbnamicbjaaelaaGreatCg42
set_option linter.all false
namespace Go.Proofs.YtbnamicbjaaelaaGreat
open Go.Proofs.Tryz
open Go.RowKit
def ee (n:UInt8) (mx:Int) (sa:Option Addr) (sc:Nat):aP:=⟨{data:= #[n]},0,0,mx,sa,sc,[⟨mx,2⟩],7,20,20,20,20,1,1,0,0,0,1,0,0,none,0,[],2,1,15⟩
structure lI (d:Int) (c:ay):Prop where
 hours:c.hours=1
 aX:c.aX= [0]
 aF: ∃da dc,c.aF= [⟨{data:= #[97]},da,dc,[d],0⟩]
 lines:c.lines= []
 aA: ∃s0 c0 s1 c1 s2 c2,c.aA= [ee 103 30 s0 c0,ee 104 30 s1 c1,ee 105 20 s2 c2]
 stores:c.stores= []
 bh:c.bh= []
 outs:c.outs= []
theorem lI.lens {d:Int} {c:ay} (h:lI d c):oX c:=by
 obtain ⟨da,dc,hb⟩:=h.aF;obtain ⟨s0,c0,s1,c1,s2,c2,hu⟩:=h.aA;refine ⟨by rw [hb];show 1<=1000000;decide,by rw [h.lines];decide,by rw [hu];show 3<=1000000;decide,by rw [h.stores];decide,by rw [h.bh];decide,by rw [h.outs];decide,λo ho=>by rw [h.outs]at ho;cases ho⟩
theorem Ew (a:UInt8) (ha:jw a.toNat=true):dU {data:= #[a]}=true:=by
 have e0:d_ {data:= #[a]} 0=a.toNat:=by rw [pw];rfl
 refine nA (by show 1<=(#[a]:Array UInt8).size;exact bY) (by show(#[a]:Array UInt8).size<=16;show 1<=16;decide) ?_ (by rw [e0];exact ha) ?_
 .rw [ByteArray.toList_eq]
  apply Bool.eq_false_iff.2;intro e;have h:=congrArg List.length (eq_of_beq e);simp at h
 .intro j hj
  obtain rfl:j=0:=by
   have:(({data:= #[a]}:ByteArray)).size=1:=rfl;omega
  rw [e0];exact Dm ha
theorem uz {c:ay} (n:UInt8) (hn:jw n.toNat=true) (mx:Int) (hm:20<=mx/\mx<=100) (sa:Option Addr) (sc:Nat) (prev:List ByteArray) (hp:prev.all (λp=>Ck p {data:= #[n]})=true) (hb:0<c.aF.length) (hc:c.hours=1):od c (ee n mx sa sc) prev 0=0:=by
 have zA:gJ 0 {data:= #[n]} prev=0:=by unfold gJ;rw [Ew n hn,hp,bI,bI]
 unfold od ee;dsimp only
 rw [zA,pR ae];have e1:bN 0 1048576 [mx]=true:=cF ae;have e2:bN 0 mx [20]=true:=cF ae;have e3:bN 0 mx [15]=true:=cF ae;rw [e1,e2,e3,show bN 0 1048576 [(0:Int)]=true from rfl,show bN 0 1048576 [(7:Int)]=true from rfl,show bN 0 1048576 [(20:Int)]=true from rfl,show bN 0 24 [(1:Int)]=true from rfl,show bN 0 24 [(0:Int)]=true from rfl,show bN 0 2 [(2:Int)]=true from rfl,show bN 1 48 [(1:Int)]=true from rfl];simp only [bI,show(((2:Int) !=1)||decide ((0:Int)<0))=true from rfl,show(((2:Int) !=1)||decide ((1:Int)<=0))=true from rfl,show((2:Int)==2)=true from rfl,if_true];have AK:cG [(⟨mx,2⟩:dy)]=mx:=by simp [cG]
 have hs:lp 0 (⟨{data:= #[n]},0,0,mx,sa,sc,[⟨mx,2⟩],7,20,20,20,20,1,1,0,0,0,1,0,0,none,0,[],2,1,15⟩:aP)=0:=by
  unfold lp;dsimp only
  have a1:decide ((([(⟨mx,2⟩:dy)].length:Nat):Int)<=8)=true:=rfl
  have a2: [(⟨mx,2⟩:dy)].all iZ=true:=by
   rw [List.all_cons,List.all_nil,Bool.and_true];unfold iZ;dsimp only
   rw [cF ae,cF ae];rfl
  have a3:decide (cG [(⟨mx,2⟩:dy)]=IntKind.i64.wrap (mx-0))=true:=by
   rw [decide_eq_true_eq,AK,IntKind.wrap_i64];omega
  rw [a1,a2,show oW [(⟨mx,2⟩:dy)] [(⟨mx,2⟩:dy)].length=true from rfl,a3,bI,bI,bI,bI]
 rw [hs];exact yo ae (by show 0<=1;omega) (λz hz=>by cases hz)
theorem lI.accept {d:Int} {c:ay} (h:lI d c) (hd:0<=d/\d<=1000):cE c=0:=by
 obtain ⟨da,dc,hb⟩:=h.aF;obtain ⟨s0,c0,s1,c1,s2,c2,hu⟩:=h.aA;have hh:=h.hours;have hbl:c.aF.length=1:=by rw [hb];rfl
 have f0:iN c 0=0:=by
  unfold iN;rw [cF ae,cF ae,bI,bI,ji (by rw [h.aX];simp [hh]) (λz hz=>by rw [h.aX]at hz;simp at hz;omega)]
  have hm: ∀n,n<=5->jN c 0 n=0:=by
   intro n;induction n with
   |zero=>intro _;rfl
   |succ n ih=>
    intro hn;rw [fL,ih ae]
    have:decide (((dV c ((n:Int)+2)).length:Int)<=ln ((n:Int)+2))=true:=by
     rw [decide_eq_true_eq];rcases (show n=0\/n=1\/n=2\/n=3\/n=4 by omega)with rfl|rfl|rfl|rfl|rfl<;>simp [dV,ln,h.lines,h.stores,h.bh,h.outs,hu]
    rw [this,bI]
  exact hm 5 bY
 have f1:oZ c 0=0:=by
  refine fl λj hj=> ?_;obtain rfl:j=0:=ae;show p_ c c.aF[0] [] 0=0;have e0:c.aF[0]=⟨{data:= #[97]},da,dc,[d],0⟩:=by simp [hb]
  rw [e0];unfold p_;dsimp only
  have zA:gJ 0 {data:= #[97]} []=0:=by unfold gJ;rw [Ew 97 aq,List.all_nil,bI,bI]
  rw [zA,ji (by rw [hh];rfl) (λz hz=>by rw [List.mem_singleton]at hz;omega),cF ae,bI]
 have f2:mv c 0=0:=fl λj hj=>absurd hj (by rw [h.lines];simp)
 have f3:o0 c 0=0:=by
  refine fl λj hj=> ?_;have hj3:j<3:=by rw [hu]at hj;exact hj
  have g0:=uz (c:=c) 103 aq 30 ae s0 c0 [] eN ae hh;have g1:=uz (c:=c) 104 aq 30 ae s1 c1 [{data:= #[103]}] (by unfold Ck;rw [List.all_cons,List.all_nil,ByteArray.toList_eq,ByteArray.toList_eq];rfl) ae hh;have g2:=uz (c:=c) 105 aq 20 ae s2 c2 [{data:= #[103]},{data:= #[104]}] (by unfold Ck;simp only [List.all_cons,List.all_nil,ByteArray.toList_eq];rfl) ae hh;show od c c.aA[j] ((c.aA.take j).map aP.name) 0=0;rcases (show j=0\/j=1\/j=2 by omega)with rfl|rfl|rfl
  .have e1:c.aA[0]=ee 103 30 s0 c0:=by simp [hu]
   rw [e1];exact g0
  .have e1:c.aA[1]=ee 104 30 s1 c1:=by simp [hu]
   rw [e1,show(c.aA.take 1).map aP.name= [{data:= #[103]}] by rw [hu];rfl];exact g1
  .have e1:c.aA[2]=ee 105 20 s2 c2:=by simp [hu]
   rw [e1,show(c.aA.take 2).map aP.name= [{data:= #[103]},{data:= #[104]}] by rw [hu];rfl];exact g2
 have f4:l9 c 0=0:=fl λj hj=>absurd hj (by rw [h.stores];simp);have f5:uS c 0=0:=fl λj hj=>absurd hj (by rw [h.bh];simp);have f6:uT c 0=0:=fl λj hj=>absurd hj (by rw [h.outs];simp);unfold cE;rw [f0,f1,f2,f3,f4,f5,f6];exact pQ _ λi _=>fl λj hj=>absurd hj (by rw [h.outs];simp)
theorem M_ (x:Int):desc [x,x]= [x,x]:=by
 have h:=ur [x,x];exact List.perm_replicate.1 (show(desc [x,x]).Perm (List.replicate 2 x)from h)
theorem lI.Jn {d:Int} {c:ay} (h:lI d c) (hd:50<=d/\d<=51):qF c 0 [0,1]=if d=50 then 1 else 2:=by
 obtain ⟨da,dc,hb⟩:=h.aF;obtain ⟨s0,c0,s1,c1,s2,c2,hu⟩:=h.aA;have a0:dG c 0 0=30:=by unfold dG Ab xI;rw [hu];rfl
 have a1:dG c 0 1=30:=by unfold dG Ab xI;rw [hu];rfl
 have a2:dG c 0 2=20:=by unfold dG Ab xI;rw [hu];rfl
 have hs:i9 c 0 (aR [0,1]) c.aA.length=20:=by
  rw [show c.aA.length=3 by rw [hu];rfl];unfold i9;rw [show((List.range 3).filter λ(u:Nat)=> !hasB (aR [0,1]) (u:Int))= [2] by rfl];simp [a2]
 have hn:jx c 0=d:=by
  unfold jx gK jm kE;rw [h.aX,hb,h.stores,h.bh];simp [gw]
 unfold qF;rw [show((0:Nat):Int)=0 from rfl,hs,hn,show([0,1]:List Nat).map (dG c 0)= [30,30] by simp [a0,a1],M_];unfold Go.Proofs.YtbnamicbjaaelaaGreat.Jn;rw [if_neg ae];unfold Go.Proofs.YtbnamicbjaaelaaGreat.Jn;by_cases q:d=50
 .rw [if_pos ae,if_pos q]
 .rw [if_neg ae,if_neg q]
  unfold Go.Proofs.YtbnamicbjaaelaaGreat.Jn;rfl
theorem lI.yi {d:Int} {c:ay} (h:lI d c) (hd:50<=d/\d<=51):Go.Proofs.YtbnamicbjaaelaaGreat.yi c 0 [0,1]=(if d=50 then 1 else 2,0):=by
 obtain ⟨s0,c0,s1,c1,s2,c2,hu⟩:=h.aA;unfold Go.Proofs.YtbnamicbjaaelaaGreat.yi;rw [if_neg (by rw [h.accept ae];simp),if_neg (by unfold mg;rw [h.hours];decide),if_neg (by rw [show c.aA.length=3 by rw [hu];rfl];decide)];have e:=h.Jn hd;rw [show((0:Int)).toNat=0 from rfl,show([0,1]:List Int).map Int.toNat= [0,1]from rfl,e];split<;>rfl
theorem lI.mB {d:Int} {c:ay} (h:lI d c) (hd:50<=d/\d<=51) (x:mZ) (hx:x.kind=0/\x.hour=0/\x.aA= [0,1]/\x.least=2/\x.unit=0/\x.length=0):Go.Proofs.YtbnamicbjaaelaaGreat.mB c x=if d=50 then 72 else 0:=by
 obtain ⟨s0,c0,s1,c1,s2,c2,hu⟩:=h.aA;obtain ⟨x1,x2,x3,x4,x5,x6⟩:=hx
 have hf:m9 c x=true:=by
  unfold m9;rw [if_pos x1,x2,x3,x4,x5,x6];unfold mg pW;rw [h.hours,show c.aA.length=3 by rw [hu];rfl];decide
 have e:=h.Jn hd
 have hv:pk c x=decide (d=51):=by
  unfold pk;rw [if_pos x1,x2,x3,x4,show((0:Int)).toNat=0 from rfl,show([0,1]:List Int).map Int.toNat= [0,1]from rfl,e,decide_eq_decide];split<;>simp<;>omega
 unfold Go.Proofs.YtbnamicbjaaelaaGreat.mB;rw [if_neg (by rw [h.accept ae];simp),hf,hv,Bool.true_and];by_cases q:d=50
 .rw [if_pos q,if_neg (by rw [decide_eq_true_eq];omega)]
 .rw [if_neg q,if_pos (by rw [decide_eq_true_eq];omega)]
def TZ (nm:ByteArray) (mn mx:Int) (sg:Value):List Value:= [.string nm,i64 0,i64 mn,i64 mx,sg,i64 7,i64 20,i64 20,i64 20,i64 20,i64 1,i64 1,i64 0,i64 0,i64 0,i64 1,i64 0,i64 0,.slice none 0 0,i64 2,i64 1,i64 15]
structure EW (V:World) (X R U D:Nat) (x0:ay) (NF:List Value) (ga:Option Addr) (gc:Nat) (us:List aP) (W:World):Prop where
 cg:aT W X 32 {x0 with ua:=ga,uc:=gc,aA:=us}.cells
 res:aT W R 32 kG.cells
 u:aT W U 55 NF
 ext:Ext V W
 case':bm W x0
 old:cP (λb=>V.heap.size<=b/\b<D/\b≠X/\b≠U/\b≠R) x0
 own:aL W D 55 22 (.slice ga us.length gc) (us.map aP.cells)
 aY: ∀x∈us,ct W 2 x.sa x.sc (x.aY.map dy.cells)/\ ∀p,x.sa=some p->D<=p.block/\p.block<W.heap.size/\ ∀q,ga=some q->p.block≠q.block
 lo:V.heap.size<=X/\V.heap.size<=R/\V.heap.size<=U/\X<D/\R<D/\U<D/\X≠R/\X≠U/\R≠U/\D<=W.heap.size
theorem EW.grow {V W W':World} {X R U D:Nat} {x0:ay} {NF:List Value} {ga:Option Addr} {gc:Nat} {us:List aP} (h:EW V X R U D x0 NF ga gc us W) (hx:Ext W W'):EW V X R U D x0 NF ga gc us W':=by
 have hs:=hx.size;have hl:=h.lo;exact ⟨h.cg.ext hx,h.res.ext hx,h.u.ext hx,h.ext.trans hx,h.case'.ext hx,h.old,h.own.ext hx,λx hm=>⟨(h.aY x hm).1.ext hx,λp hp=>⟨((h.aY x hm).2 p hp).1,bA (((h.aY x hm).2 p hp).2.1),((h.aY x hm).2 p hp).2.2⟩⟩,ae⟩
theorem EW.Ph {V W:World} {X R U D:Nat} {x0:ay} {NF:List Value} {ga:Option Addr} {gc:Nat} {us:List aP} (h:EW V X R U D x0 NF ga gc us W) (j:Nat) (v:Value):EW V X R U D x0 (NF.set j v) ga gc us (W.setCell ⟨U,j,none⟩ v):=by
 have hl:=h.lo;have hx:=(aB.refl U W).ez (o:=j) (v:=v);have hs:=hx.size
 exact ⟨h.cg.but hx ae,h.res.but hx ae,h.u.set j v,hx.ext h.ext hl.2.2.1,h.case'.but hx (h.old.mono λb hb=>ae),h.old,h.own.but hx hl.2.2.2.2.2.1,
  λx hm=>⟨(h.aY x hm).1.but hx (λp hp=>bA (((h.aY x hm).2 p hp).1)),λp hp=>⟨((h.aY x hm).2 p hp).1,bA (((h.aY x hm).2 p hp).2.1),((h.aY x hm).2 p hp).2.2⟩⟩,ae⟩
theorem EW.push {V W w5:World} {X R U D:Nat} {x0:ay} {NF:List Value} {ga:Option Addr} {gc:Nat} {us:List aP} (h:EW V X R U D x0 NF ga gc us W) {v1:Value} {x:aP}
 (ho:w5.ownsRow D 55 22 v1 (us.length+1) ((us.map aP.cells).flatten++x.cells)) (he: ∀a0,Ext a0 W->a0.heap.size<=D->Ext a0 w5) (hb: ∀k,k<W.heap.size->some k≠Value.ownBlock (.slice ga us.length gc)->w5.heap[k]?=W.heap[k]?) (hz:W.heap.size<=w5.heap.size)
 (hv:v1.ownBlock=Value.ownBlock (.slice ga us.length gc)\/ ∃g,v1.ownBlock=some g/\W.heap.size<=g)
 (hs:ct W 2 x.sa x.sc (x.aY.map dy.cells)/\ ∀p,x.sa=some p->D<=p.block/\p.block<W.heap.size/\ ∀q,ga=some q->p.block≠q.block):
 ∃g2 k2,v1= .slice g2 (us.length+1) k2/\aT w5 X 32 {x0 with ua:=ga,uc:=gc,aA:=us}.cells/\EW V X R U D x0 NF g2 k2 (us++ [x]) (w5.setCell ⟨X,4,none⟩ (.slice g2 (us.length+1) k2)):=by
 obtain ⟨g2,k2,rfl⟩:=jn ho;have hl:=h.lo;obtain ⟨K,Sj,Mh,hKx⟩:=jP (base:=D) (v:= .slice ga us.length gc) hl.2.2.2.2.2.2.2.2.2 (λk q=>(h.own.own.lt k q).1) he hb hz
 have SF:K=W.heap.size\/ ∃q,ga=some q/\q.block=K:=by
  rcases Mh with q|q
  .exact .inl q
  .cases ga with
   |none=>cases q
   |some q'=>exact .inr ⟨q',rfl,by have e2:some q'.block=some K:=q;cases e2;rfl⟩
 have Ek: ∀p:Addr,p.block<W.heap.size/\(∀q,ga=some q->p.block≠q.block)->p.block≠K:=λp hp=>by
  rcases SF with q|⟨q,q1,q2⟩
  .omega
  .have:=hp.2 q q1;omega
 have hne:X≠K/\R≠K/\U≠K/\V.heap.size<=K:=by clear SF Mh Ek;omega
 clear SF Mh
 have hg2: ∀q,g2=some q->(∃q0,ga=some q0/\q.block=q0.block)\/W.heap.size<=q.block:=λq hq=>by
  subst hq;rcases hv with e1|⟨g,e1,e2⟩
  .cases ga with
   |none=>cases e1
   |some q'=>exact .inl ⟨q',rfl,by have e3:some q.block=some q'.block:=e1;exact Option.some.inj e3⟩
  .have e3:some q.block=some g:=e1
   cases e3;exact .inr e2
 have hs5:=hKx.size;have hx:=((aB.refl X w5).ez (o:=4) (v:= .slice g2 (us.length+1) k2));have hs6:=hx.size;have hA:=h.cg.but hKx hne.1;have hlen:(us++ [x]).length=us.length+1:=aG
 refine ⟨g2,k2,rfl,hA,?_,(h.res.but hKx hne.2.1).but hx ae,(h.u.but hKx hne.2.2.1).but hx ae,hx.ext (hKx.ext h.ext hne.2.2.2) hl.1,
  (h.case'.but hKx (h.old.mono λb hb=>ae)).but hx (h.old.mono λb hb=>ae),h.old,?_,λy hm=> ?_,ae⟩
 .have h5:=hA.set 4 (.slice g2 (us.length+1) k2)
  have e:({x0 with ua:=ga,uc:=gc,aA:=us}:ay).cells.set 4 (.slice g2 (us.length+1) k2)=({x0 with ua:=g2,uc:=k2,aA:=us++ [x]}:ay).cells:=by rw [<-hlen];rfl
  rw [e]at h5;exact h5
 .have h5:=(h.own.snoc (w':=w5) (r:=x.cells) rfl (by rw [List.length_map];exact ho)).but hx hl.2.2.2.1
  rw [hlen,List.map_append];exact h5
 .have h5:ct W 2 y.sa y.sc (y.aY.map dy.cells)/\ ∀p,y.sa=some p->D<=p.block/\p.block<W.heap.size/\ ∀q,ga=some q->p.block≠q.block:=by
   rcases List.mem_append.1 hm with h6|h6
   .exact h.aY y h6
   .rw [List.mem_singleton]at h6;subst h6;exact hs
  refine ⟨(h5.1.but hKx λp hp=>Ek p (h5.2 p hp).2).but hx λp hp=>bA ((h5.2 p hp).1),λp hp=>⟨(h5.2 p hp).1,bA ((h5.2 p hp).2.1),λq hq=> ?_⟩⟩;rcases hg2 q hq with⟨q0,h7,h8⟩|h7
  .have:=(h5.2 p hp).2.2 q0 h7;omega
  .have:=(h5.2 p hp).2.1;omega
theorem JT {W:World} {D:Nat} {us:List aP} {ga:Option Addr} {gc:Nat} (ho:aL W D 55 22 (.slice ga us.length gc) (us.map aP.cells)):ct W 22 ga gc (us.map aP.cells):=by
 obtain ⟨a,c,e,h,-⟩:=ho.recs aq;rw [List.length_map]at e;simp only [Value.slice.injEq]at e;obtain ⟨rfl,-,rfl⟩:=e;exact h
