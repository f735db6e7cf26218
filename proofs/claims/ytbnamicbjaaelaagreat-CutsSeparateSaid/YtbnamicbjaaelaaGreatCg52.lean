/- Texts of the proof. -/
import Derived.Test.YtbnamicbjaaelaaGreatCg43
import Derived.Test.YtbnamicbjaaelaaGreatCg51
set_option linter.all false
set_option maxHeartbeats 4000000
set_option maxRecDepth 100000
namespace Go.Proofs.YtbnamicbjaaelaaGreat
open Go.Proofs.Tryz
open Go.RowKit
def H_:Nat->UInt8|0=>103|1=>104|_=>105
def EJ:Nat->Int|0=>30|1=>30|_=>20
def GG (n:Nat) (us:List aP):Prop:=us.length=n/\ ∀j (h:j<us.length),∃s c,us[j]=ee (H_ j) (EJ j) s c
theorem GG.snoc {n:Nat} {us:List aP} (h:GG n us) (s:Option Addr) (c:Nat):GG (n+1) (us++ [ee (H_ n) (EJ n) s c]):=by
 refine ⟨by rw [List.length_append,h.1];rfl,λj hj=> ?_⟩;by_cases hlt:j<us.length
 .rw [List.getElem_append_left hlt];exact h.2 j hlt
 .have e:j=us.length:=by rw [List.length_append]at hj;simp at hj;omega
  subst e;exact ⟨s,c,by rw [List.getElem_append_right bY];simp [h.1]⟩
theorem X4 {α:Type}: ∀(l:List α),l.length=3-> ∃a b c,l= [a,b,c]
 | [a,b,c],_=>⟨a,b,c,rfl⟩
theorem GG.three {us:List aP} (h:GG 3 us): ∃s0 c0 s1 c1 s2 c2,us= [ee 103 30 s0 c0,ee 104 30 s1 c1,ee 105 20 s2 c2]:=by
 obtain ⟨h0,h⟩:=h;obtain ⟨a,b,c,rfl⟩:=X4 us h0;obtain ⟨s0,c0,e0⟩:=h 0 aG;obtain ⟨s1,c1,e1⟩:=h 1 aG;obtain ⟨s2,c2,e2⟩:=h 2 aG;clear h;simp only [List.getElem_cons_zero,List.getElem_cons_succ,H_,EJ]at e0 e1 e2;subst e0 e1 e2;exact ⟨s0,c0,s1,c1,s2,c2,rfl⟩
theorem Ex {w:World} {b:Nat} {x:Int} (h:aT w b 3 [i64 x]) (hx:b_ x):aS w (some ⟨b,0,none⟩) 1 [x]:=
 ⟨aG,ae,λi hi=>⟨b,0,rfl,by
   have h0:i=0:=by simpa using hi
   subst h0;exact h.cell 0⟩,λi hi=>by
   have h0:i=0:=by simpa using hi
   subst h0;unfold b_ at hx;simp;omega⟩
theorem Ey {w:World} {b m:Nat} {T:TypeId} {r:List Value} (h:aT w b T r):ct w m (some ⟨b,0,none⟩) 1 [r]:=
 ⟨aG,ae,λi hi=>⟨b,0,rfl,λj hj=>by
   have h0:i=0:=by simpa using hi
   subst h0;rw [Nat.zero_mul,Nat.zero_add,h.cell j];exact List.getElem?_eq_getElem hj⟩⟩
def uA (d:Int) (rb bb db:Nat):ay:=⟨1,some ⟨rb,0,none⟩,1,[0],some ⟨bb,0,none⟩,1,[⟨{data:= #[97]},some ⟨db,0,none⟩,1,[d],0⟩],none,0,[],none,0,[],none,0,[],none,0,[],none,0,[]⟩
theorem ct.Na (w:World) (m:Nat):ct w m none 0 []:=⟨bY,aq,λi hi=>absurd hi (Nat.not_lt_zero _)⟩
theorem Pj {w:World} {d:Int} {rb bb db:Nat} (hd:b_ d) (h1:aT w rb 3 [i64 0]) (h2:aT w db 3 [i64 d]) (h3:aT w bb 62 [.string {data:= #[97]},.slice (some ⟨db,0,none⟩) 1 1,i64 0]):bm w (uA d rb bb db):=
 have z:b_ 0:=by unfold b_;omega
 ⟨by show b_ 1;unfold b_;omega,Ex h1 z,Ey h3,λb hb=>by
   rw [show b=⟨{data:= #[97]},some ⟨db,0,none⟩,1,[d],0⟩from by simpa [uA]using hb];exact ⟨by show 1<=maxLen;decide,Ex h2 hd,z⟩,ct.Na _ _,λ_ h=>(by cases h),ct.Na _ _,λ_ h=>(by cases h),ct.Na _ _,λ_ h=>(by cases h),ct.Na _ _,λ_ h=>(by cases h),ct.Na _ _,λ_ h=>(by cases h)⟩
theorem Pk {P:Nat->Prop} {d:Int} {rb bb db:Nat} (h1:P rb) (h2:P bb) (h3:P db):cP P (uA d rb bb db):=
 ⟨λp e=>by cases e;exact h1,λp e=>by cases e;exact h2,λb hb=>by
   rw [show b=⟨{data:= #[97]},some ⟨db,0,none⟩,1,[d],0⟩from by simpa [uA]using hb];intro p e;cases e;exact h3,eY.none _,λ_ h=>(by cases h),eY.none _,λ_ h=>(by cases h),eY.none _,eY.none _,λ_ h=>(by cases h),eY.none _,λ_ h=>(by cases h)⟩
theorem SZ {w:World} {d:Int} {rb bb db:Nat} {ga:Option Addr} {gc:Nat} {s0 s1 s2:Option Addr} {c0 c1 c2:Nat} (h:bm w (uA d rb bb db)) (hr:ct w 22 ga gc ([ee 103 30 s0 c0,ee 104 30 s1 c1,ee 105 20 s2 c2].map aP.cells))
 (hs: ∀x∈ [ee 103 30 s0 c0,ee 104 30 s1 c1,ee 105 20 s2 c2],ct w 2 x.sa x.sc (x.aY.map dy.cells)):bm w {uA d rb bb db with ua:=ga,uc:=gc,aA:= [ee 103 30 s0 c0,ee 104 30 s1 c1,ee 105 20 s2 c2]}:=
 ⟨h.hours,h.aX,h.aF,h.fE,h.lines,h.line,hr,λu hu=>by
   have h1:=hs u hu
   obtain ⟨n,m,s,c,rfl,hm⟩: ∃n m s c,u=ee n m s c/\(m=30\/m=20):=by
    simp only [List.mem_cons,List.not_mem_nil,or_false]at hu;rcases hu with rfl|rfl|rfl
    .exact ⟨_,_,_,_,rfl,.inl rfl⟩
    .exact ⟨_,_,_,_,rfl,.inl rfl⟩
    .exact ⟨_,_,_,_,rfl,.inr rfl⟩
   refine ⟨by show 1<=maxLen;decide,aS.nil _,h1,λs hs=> ?_,λz hz=> ?_⟩
   .rw [show s=⟨m,2⟩from by simpa [ee]using hs]
    intro z hz;simp only [List.mem_cons,List.not_mem_nil,or_false]at hz;unfold b_;rcases hz with rfl|rfl<;>omega
   .simp only [ee,List.mem_cons,List.not_mem_nil,or_false]at hz
    unfold b_;omega,h.stores,h.store,h.bh,h.tie,h.outs,h.o⟩
theorem S0 {P:Nat->Prop} {d:Int} {rb bb db:Nat} {ga:Option Addr} {gc:Nat} {us:List aP} (h:cP P (uA d rb bb db)) (hg:eY P ga) (hs: ∀x∈us,eY P x.sa/\eY P x.aa):cP P {uA d rb bb db with ua:=ga,uc:=gc,aA:=us}:=
 ⟨h.aX,h.aF,h.fE,h.lines,h.line,hg,hs,h.stores,h.bh,h.tie,h.outs,h.o⟩
def Nb:List Value:= [.string {data:= #[103]},.string {data:= #[104]},.string {data:= #[105]}]
def Nc:List Value:= [i64 30,i64 30,i64 20]
theorem Pm {i:Nat} (h:i<3):Nb[i]?=some (.string {data:= #[H_ i]}):=by
 match i,h with
 |0,_=>rfl
 |1,_=>rfl
 |2,_=>rfl
theorem Pn {i:Nat} (h:i<3):Nc[i]?=some (i64 (EJ i)):=by
 match i,h with
 |0,_=>rfl
 |1,_=>rfl
 |2,_=>rfl
def S1 (n U i:Nat) (k:Nat) (v:Value) (w:World):Prop:=match k with
 |0=> ∃B,n<=B/\v= .slice (some ⟨B,0,none⟩) 3 3/\aT w B 9 Nb
 |1=>v=i64 i
 |2=> ∃B,n<=B/\v= .pointer (some ⟨B,i,none⟩)/\aT w B 9 Nb
 |3=>v= .string {data:= #[H_ i]}
 |4=> ∃B,n<=B/\v= .slice (some ⟨B,0,none⟩) 3 3/\aT w B 3 Nc
 |5=>v=i64 i
 |6=> ∃B,n<=B/\v= .pointer (some ⟨B,i,none⟩)/\aT w B 3 Nc
 |7=>v=i64 (EJ i)
 |8=>v= .pointer (some ⟨U,0,none⟩)
 |9=>w.cell? ⟨U,0,none⟩=some (.string {data:= #[H_ i]})
 |10=>v= .pointer (some ⟨U,2,none⟩)
 |11=>w.cell? ⟨U,2,none⟩=some (i64 0)
 |_=>True
theorem Ia {n U i:Nat} {w w':World} (x:Ext w w') {k:Nat} {v:Value} (h:S1 n U i k v w):S1 n U i k v w':=by
 unfold S1 at*;split at h
 .obtain ⟨B,h1,h2,h3⟩:=h;exact ⟨B,h1,h2,h3.ext x⟩
 .exact h
 .obtain ⟨B,h1,h2,h3⟩:=h;exact ⟨B,h1,h2,h3.ext x⟩
 .exact h
 .obtain ⟨B,h1,h2,h3⟩:=h;exact ⟨B,h1,h2,h3.ext x⟩
 .exact h
 .obtain ⟨B,h1,h2,h3⟩:=h;exact ⟨B,h1,h2,h3.ext x⟩
 .exact h
 .exact h
 .exact aC x h
 .exact h
 .exact aC x h
 .trivial
theorem Ib {n U i o:Nat} {w:World} {k:Nat} {u v:Value} (hU:U<n) (ho:(o=0/\k≠9)\/(o=2/\k≠11)) (h:S1 n U i k v w):S1 n U i k v (w.setCell ⟨U,o,none⟩ u):=by
 unfold S1 at*;split at h
 .obtain ⟨B,h1,h2,h3⟩:=h;exact ⟨B,h1,h2,h3.other _ _ (by show U≠B;omega)⟩
 .exact h
 .obtain ⟨B,h1,h2,h3⟩:=h;exact ⟨B,h1,h2,h3.other _ _ (by show U≠B;omega)⟩
 .exact h
 .obtain ⟨B,h1,h2,h3⟩:=h;exact ⟨B,h1,h2,h3.other _ _ (by show U≠B;omega)⟩
 .exact h
 .obtain ⟨B,h1,h2,h3⟩:=h;exact ⟨B,h1,h2,h3.other _ _ (by show U≠B;omega)⟩
 .exact h
 .exact h
 .have:o≠0:=ae
  go_simp
 .exact h
 .have:o≠2:=ae
  go_simp
 .trivial
theorem exG {V w Y:World} {X R U D n:Nat} {x0:ay} {mx:Int} {sg:Value} {ga:Option Addr} {gc:Nat} {us:List aP} (h:(∃nm mn,EW V X R U D x0 (TZ nm mn mx sg) ga gc us w)/\n<=w.heap.size) (x:Ext w Y):(∃nm mn,EW V X R U D x0 (TZ nm mn mx sg) ga gc us Y)/\n<=Y.heap.size:=by
 obtain ⟨⟨nm,mn,h1⟩,h2⟩:=h;exact ⟨⟨nm,mn,h1.grow x⟩,Nat.le_trans h2 x.size⟩
theorem qh (V:World) (d:Int) (hd:b_ d):
 Calls prog 35 #[i64 d] V λe w'=> ∃c:ay,e= .returned (.agg c.cells.toArray)/\lI d c/\bm w' c/\Ext V w':=by
 have HD:=ah hd;clear hd;go_enter func35,ntmps35
 go_upto_region 1 with fail
 obtain ⟨W0,hW,x0,-,A0⟩:=aV V 32 kG.cells;rw [show V.alloc (.cells #[i64 0,.slice none 0 0,.slice none 0 0,.slice none 0 0,.slice none 0 0,.slice none 0 0,.slice none 0 0,.slice none 0 0] 32)=W0 from hW.symm];obtain ⟨R,hR⟩: ∃R,R=V.heap.size:=⟨_,rfl⟩;rw [<-hR]at A0⊢;have HR:=ah A0;have HX:=ah x0;have GR:Hid (V.heap.size<=R):=Nat.le_of_eq hR.symm
 clear hW x0 A0 hR;go_wp2_with fail
 refine (Gv W0).mono ?_;rintro e W1 ⟨gb,rb,db,bb,ub,sv,rfl,Ch,Qa,hlt,hg,hr,Px,hb,hu,x1⟩;have Kl:=ah Ch;have Zj:=ah Qa;have AH:=ah hlt;have HG:=ah hg;have Qv:=ah hr;have vk:=ah Px;have qB:=ah hb;have S2:=ah hu;have eC:=ah x1
 clear Ch Qa hlt hg hr Px hb hu x1;obtain ⟨W2,hW2,x2,-,A0,A1⟩:=dZ W1 32 kG.cells 136 kB;obtain ⟨X,hX⟩: ∃X,X=W1.heap.size:=⟨_,rfl⟩
 have X5:aT ((W1.alloc (.cells #[i64 0,.slice none 0 0,.slice none 0 0,.slice none 0 0,.slice none 0 0,.slice none 0 0,.slice none 0 0,.slice none 0 0] 32)).alloc (.cells #[.slice none 0 0,.slice none 0 0,.slice none 0 0,.slice none 0 0,.slice none 0 0,.slice none 0 0,.slice none 0 0,.slice none 0 0] 136)) W1.heap.size 32 kG.cells:=by
  have h:=A0;rw [hW2]at h;exact h
 have PD:aT ((W1.alloc (.cells #[i64 0,.slice none 0 0,.slice none 0 0,.slice none 0 0,.slice none 0 0,.slice none 0 0,.slice none 0 0,.slice none 0 0] 32)).alloc (.cells #[.slice none 0 0,.slice none 0 0,.slice none 0 0,.slice none 0 0,.slice none 0 0,.slice none 0 0,.slice none 0 0,.slice none 0 0] 136)) (W1.heap.size+1) 136 kB:=by
  have h:=A1;rw [hW2]at h;exact h
 have QT:Ext W1 ((W1.alloc (.cells #[i64 0,.slice none 0 0,.slice none 0 0,.slice none 0 0,.slice none 0 0,.slice none 0 0,.slice none 0 0,.slice none 0 0] 32)).alloc (.cells #[.slice none 0 0,.slice none 0 0,.slice none 0 0,.slice none 0 0,.slice none 0 0,.slice none 0 0,.slice none 0 0,.slice none 0 0] 136)):=(ar.alloc _).alloc _;clear hW2 x2 A0 A1;have mP:=ah PD;have PR:=ah QT;have tK:Hid (R<gb):=Nat.lt_of_lt_of_le HR.o.lt AH.o.1
 clear PD QT;go_upto_region 2 with(first|(refine cX rfl 32 _ _ rfl W1.heap.size kG.cells (lH rb bb ub) X5 rfl rfl ax rfl rfl ?_;intro W3 Kk hx3)|(refine cX rfl 136 _ _ rfl (W1.heap.size+1) kB sv (mP.o.but hx3 (Nat.succ_ne_self _)) rfl rfl (by rw [Kl.o];kernel_rfl) (by rw [Kl.o];rfl) Zj.o ?_;intro W4 G7 gG))
 have hold: ∀b T cs,aT W1 b T cs->aT W4 b T cs:=λb T cs h=>((h.ext PR.o).but hx3 (bA h.lt)).but gG (bA h.lt);have hXA:aT W4 X 32 (lH rb bb ub):=by rw [hX];exact Kk.but gG ae
 have hRA:=hold _ _ _ (HR.o.ext eC.o);have hRX:R<X:=by rw [hX];exact (HR.o.ext eC.o).lt
 have hEX:Ext V W4:=by
  have h1:=HX.o.trans eC.o;have h2:=h1.size;exact gG.ext (hx3.ext (h1.trans PR.o) h2) ae
 have hUX:ub<X:=by rw [hX];exact S2.o.lt
 replace HG:=ah (hold _ _ _ HG.o);replace Qv:=ah (hold _ _ _ Qv.o);replace vk:=ah (hold _ _ _ vk.o);replace qB:=ah (hold _ _ _ qB.o);replace S2:=ah (hold _ _ _ S2.o)
 rw [<-hX];replace HR:=ah hRA;have Hs:=ah hXA;replace HX:=ah hEX
 have HLO:Hid (V.heap.size<=gb/\gb<rb/\rb<db/\db<bb/\bb<ub/\ub<X/\V.heap.size<=R/\R<X/\R<gb):=by
  have h1:=AH.o;have h2:=GR.o;have h3:=tK.o
  show _/\_/\_/\_/\_/\_/\_/\_/\_;omega
 clear hold hXA hRA hEX hUX hRX Kk hx3 G7 gG mP PR X5 hX eC AH GR tK;have kx:W4.cell? ⟨X,2,none⟩=some (.slice (some ⟨bb,0,none⟩) 1 1):=Hs.o.cell 2;have kb:W4.cell? ⟨bb,1,none⟩=some (.slice (some ⟨db,0,none⟩) 1 1):=qB.o.cell 1;have kd:W4.cell? ⟨db,0,none⟩=some (i64 15):=vk.o.cell 0;have fd:=vk.o.frozen 0;go_upto_region 3 with fail
 clear kx kb kd fd;have hs:=(aB.refl db W4).ez (o:=0) (v:=i64 d);have h0:=HLO.o;replace HG:=ah (HG.o.but hs ae);replace Qv:=ah (Qv.o.but hs ae);replace qB:=ah (qB.o.but hs ae);replace S2:=ah (S2.o.but hs ae);replace Hs:=ah (Hs.o.but hs ae);replace HR:=ah (HR.o.but hs ae)
 replace vk:Hid (aT (W4.setCell ⟨db,0,none⟩ (i64 d)) db 3 [i64 d]):=vk.o.set 0 (i64 d);replace HX:=ah (hs.ext HX.o ae);clear hs h0;generalize W4.setCell ⟨db,0,none⟩ (i64 d)=W5 at*;have kx:W5.cell? ⟨X,4,none⟩=some (.slice (some ⟨ub,0,none⟩) 1 1):=Hs.o.cell 4;have X6:=S2.o.adds;go_upto_region 4 with(first|(refine br rfl 55 _ rfl ⟨ub,0,none⟩ rfl (iJ gb) _ X6 rfl rfl ax ?_)|(refine bP rfl 55 _ _ rfl kp.cells (iJ gb) rfl rfl ax rfl rfl ?_))
 clear kx X6;obtain ⟨W6,hW,x6,-,A6⟩:=aV W5 55 (iJ gb);rw [show W5.alloc (.cells (iJ gb).toArray 55)=W6 from hW.symm];obtain ⟨U,hU⟩: ∃U,U=W5.heap.size:=⟨_,rfl⟩;rw [<-hU]at A6⊢;have HXU:Hid (X<U):=by(show _<_;rw [hU];exact Hs.o.lt)
 have HU:=ah A6;replace HG:=ah (HG.o.ext x6);replace Qv:=ah (Qv.o.ext x6);replace qB:=ah (qB.o.ext x6);replace vk:=ah (vk.o.ext x6);replace Hs:=ah (Hs.o.ext x6);replace HR:=ah (HR.o.ext x6);replace HX:=ah (HX.o.trans x6)
 clear hW x6 A6 hU S2;have kx:W6.cell? ⟨X,4,none⟩=some (.slice (some ⟨ub,0,none⟩) 1 1):=Hs.o.cell 4;have fx:=Hs.o.frozen 4
 go_upto_block 0 with fail
 clear kx fx;have hs:=(aB.refl X W6).ez (o:=4) (v:= .slice none 0 0);have h0:=HLO.o;have h1:=HXU.o
 obtain ⟨D,hD⟩: ∃D,D=(W6.setCell ⟨X,4,none⟩ (.slice none 0 0)).heap.size:=⟨_,rfl⟩;have hUD:=HU.o.but hs ae;have hDU:U<D:=by rw [hD];exact hUD.lt
 have HEW:Hid (EW V X R U D (uA d rb bb db) (TZ {data:= #[103]} 10 20 (.slice (some ⟨gb,0,none⟩) 1 1)) none 0 [] (W6.setCell ⟨X,4,none⟩ (.slice none 0 0))):=
  ⟨Hs.o.set 4 (.slice none 0 0),HR.o.but hs ae,hUD,hs.ext HX.o ae,Pj HD.o (Qv.o.but hs ae) (vk.o.but hs ae) (qB.o.but hs ae),Pk ae ae ae,aL.nil _ _ _ _,λ_ h=>(by cases h),ae⟩
 have S4:Hid (V.heap.size<=R/\X<D/\R<D/\U<D):=by(show _/\_/\_/\_;omega)
 clear hs h0 h1 hUD hDU hD HG Qv qB vk Hs HR HX HU HLO HXU Kl Zj;generalize W6.setCell ⟨X,4,none⟩ (.slice none 0 0)=W7 at*;go_wp2
 go_loopw [6] (λiv wr=> ∃(i:Nat) (us:List aP) (ga:Option Addr) (gc:Nat) (nm:ByteArray) (mn mx:Int) (sg:Value),i<=3/\GG i us/\EW V X R U D (uA d rb bb db) (TZ nm mn mx sg) ga gc us wr/\iv= .int .i64 i) (λiv _=>3-(intOf iv).toNat)
 case atStart=>exact ⟨0,[],none,0,_,_,_,_,ae,⟨rfl,λj h=>absurd h (Nat.not_lt_zero _)⟩,HEW.o,rfl⟩
 case round=>
  clear HEW;obtain ⟨i,us,ga,gc,nm,mn,mx,sg,hi,RI,hew,rfl⟩:=hrel;have Ov:=ah RI;have HE:=ah hew
  clear RI hew;by_cases hlt:i<3
  .have iM:(0:Int)<=(i:Int):=ae
   have iK:(i:Int)<3:=ae;go_upto_region 8 with fail
   have hMN: ∀w w':World,Ext w w'->w.heap.size<=w'.heap.size:=λ_ _ h=>h.size;refine rX [some 27,some 28,some 29,some 30,some 31,some 32,some 33,some 34,some 35,none,some 36,none] (S1 wr.heap.size U i) (λw=>(∃nm mn,EW V X R U D (uA d rb bb db) (TZ nm mn mx sg) ga gc us w)/\wr.heap.size<=w.heap.size) (λf=>by simp only [pG,sS,Act.put];rfl) ax ax aq eN (λ_ _ _ _ _ h=>h) ⟨⟨nm,mn,HE.o.grow (ar.drew)⟩,bY⟩ ?step ?rest
   case step=>
    as_aux_lemma=>
     have HUW:Hid (U<wr.heap.size):=HE.o.u.lt;clear HE;refine fK.cons rfl (λf w hG hd K hK=> ?_) (fK.take rfl (λf w hG hd=>⟨i64 i,by go_simp,rfl⟩) (fK.take rfl (λf w hG hd=> ?_) (fK.take rfl (λf w hG hd=> ?_) (fK.cons rfl (λf w hG hd K hK=> ?_) (fK.take rfl (λf w hG hd=>⟨i64 i,by go_simp,rfl⟩) (fK.take rfl (λf w hG hd=> ?_) (fK.take rfl (λf w hG hd=> ?_) (fK.take rfl (λf w hG hd=>⟨.pointer (some ⟨U,0,none⟩),by go_simp,rfl⟩) (fK.cons rfl (λf w hG hd K hK=> ?_) (fK.take rfl (λf w hG hd=>⟨.pointer (some ⟨U,2,none⟩),by go_simp,rfl⟩) (fK.cons rfl (λf w hG hd K hK=> ?_) fK.nil)))))))))))
     .go_simp
      obtain ⟨Y,hW,xa,-,A⟩:=aV w 9 [.string {data:= #[103]},.string {data:= #[104]},.string {data:= #[105]}];rw [show w.alloc (.cells #[.string {data:= #[103]},.string {data:= #[104]},.string {data:= #[105]}] 9)=Y from hW.symm];exact hK.o _ _ (exG hG xa) ⟨_,hG.2,rfl,A⟩ (λj u _ _ h=>Ia xa h)
     .obtain ⟨B,hB,d0,hA⟩: ∃B,wr.heap.size<=B/\f 0= .slice (some ⟨B,0,none⟩) 3 3/\aT w B 9 Nb:=hd ⟨0,.data⟩ aG rfl
      have d1:f 1=i64 i:=hd ⟨1,.data⟩ aG rfl;exact ⟨.pointer (some ⟨B,i,none⟩),by go_simp,B,hB,rfl,hA⟩
     .obtain ⟨B,hB,d0,hA⟩: ∃B,wr.heap.size<=B/\f 2= .pointer (some ⟨B,i,none⟩)/\aT w B 9 Nb:=hd ⟨2,.data⟩ aG rfl
      have e0:w.cell? ⟨B,i,none⟩=some (.string {data:= #[H_ i]}):=(hA.cell i).trans (Pm hlt);exact ⟨.string {data:= #[H_ i]},by go_simp,rfl⟩
     .go_simp
      obtain ⟨Y,hW,xa,-,A⟩:=aV w 3 [i64 30,i64 30,i64 20];rw [show w.alloc (.cells #[i64 30,i64 30,i64 20] 3)=Y from hW.symm];exact hK.o _ _ (exG hG xa) ⟨_,hG.2,rfl,A⟩ (λj u _ _ h=>Ia xa h)
     .obtain ⟨B,hB,d0,hA⟩: ∃B,wr.heap.size<=B/\f 4= .slice (some ⟨B,0,none⟩) 3 3/\aT w B 3 Nc:=hd ⟨4,.data⟩ aG rfl
      have d1:f 5=i64 i:=hd ⟨5,.data⟩ aG rfl;exact ⟨.pointer (some ⟨B,i,none⟩),by go_simp,B,hB,rfl,hA⟩
     .obtain ⟨B,hB,d0,hA⟩: ∃B,wr.heap.size<=B/\f 6= .pointer (some ⟨B,i,none⟩)/\aT w B 3 Nc:=hd ⟨6,.data⟩ aG rfl
      have e0:w.cell? ⟨B,i,none⟩=some (i64 (EJ i)):=(hA.cell i).trans (Pn hlt);exact ⟨i64 (EJ i),by go_simp,rfl⟩
     .have d8:f 8= .pointer (some ⟨U,0,none⟩):=hd ⟨8,.data⟩ aG rfl
      have d3:f 3= .string {data:= #[H_ i]}:=hd ⟨3,.data⟩ aG rfl;obtain ⟨⟨nm,mn,hE⟩,hS⟩:=hG;have c0:w.cell? ⟨U,0,none⟩=some (.string nm):=hE.u.cell 0;have f0:=hE.u.frozen 0;simp only [d8,d3]at hK;go_simp;exact hK.o undef _ ⟨⟨_,mn,hE.Ph 0 (.string {data:= #[H_ i]})⟩,by simpa using hS⟩ ((hE.u.set 0 _).cell 0) (λj u _ hj h=>Ib HUW.o (Or.inl ⟨rfl,hj⟩) h)
     .have d8:f 10= .pointer (some ⟨U,2,none⟩):=hd ⟨10,.data⟩ aG rfl
      obtain ⟨⟨nm,mn,hE⟩,hS⟩:=hG;have c0:w.cell? ⟨U,2,none⟩=some (i64 mn):=hE.u.cell 2;have f0:=hE.u.frozen 2;simp only [d8]at hK;go_simp;exact hK.o undef _ ⟨⟨nm,_,hE.Ph 2 (i64 0)⟩,by simpa using hS⟩ ((hE.u.set 2 _).cell 2) (λj u _ hj h=>Ib HUW.o (Or.inr ⟨rfl,hj⟩) h)
   intro f w hG hD;have d7:f 7=i64 (EJ i):=hD 7 aq;obtain ⟨⟨nm2,mn2,hE⟩,-⟩:=hG;have c0:some (Value.string nm2)=some (.string {data:= #[H_ i]}):=(hE.u.cell 0).symm.trans (hD 9 aq);have c2:some (i64 mn2)=some (i64 0):=(hE.u.cell 2).symm.trans (hD 11 aq);clear hD;simp only [Option.some.injEq,Value.string.injEq,Value.int.injEq,true_and]at c0 c2;subst c0 c2;clear HE;have HE:=ah hE;clear hE hMN;refine ng (S:=λ_=>True) (R:=λ_=>True) (Z:=λ_=>false) _ _ _ _ ?_;refine aJ 12 trivial trivial ?_;refine eI 13 rfl (λKc hK=> ?_);have c3:w.cell? ⟨U,3,none⟩=some (i64 mx):=HE.o.u.cell 3;have f3:=HE.o.u.frozen 3;go_simp;refine hK.o _ _ trivial trivial (λ_ _=> ?_);refine aI ax ?_ _;clear hK Kc c3 f3;have yP:=ah (HE.o.Ph 3 (i64 (EJ i)));clear HE;generalize w.setCell ⟨U,3,none⟩ (i64 (EJ i))=W8 at*;have e3:W8.cell? ⟨U,3,none⟩=some (i64 (EJ i)):=yP.o.u.cell 3;have e4:W8.cell? ⟨U,4,none⟩=some sg:=yP.o.u.cell 4;have f4:=yP.o.u.frozen 4;have hUs:U<W8.heap.size:=yP.o.u.lt;go_upto_region 10 with fail
   clear e3 e4 f4;obtain ⟨sb,Tx⟩: ∃sb,sb=W8.heap.size:=⟨_,rfl⟩;rw [<-Tx];have Vh:=yP.o.Ph 4 (.slice (some ⟨sb,0,none⟩) 1 1);have hsz:(W8.setCell ⟨U,4,none⟩ (.slice (some ⟨sb,0,none⟩) 1 1)).heap.size=sb:=by rw [World.size_setCell];exact Tx.symm
   have zv:Hid (D<=sb/\ ∀q,ga=some q->sb≠q.block):=⟨bA yP.o.lo,λq hq=>by have:=(yP.o.own.own.lt q.block (by rw [hq];rfl)).2;omega⟩;clear hUs yP d7 Tx;generalize W8.setCell ⟨U,4,none⟩ (.slice (some ⟨sb,0,none⟩) 1 1)=W9 at*;obtain ⟨tD,hW,x9,-,A9⟩:=aV W9 110 [i64 (EJ i),i64 2];rw [show W9.alloc (.cells #[i64 (EJ i),i64 2] 110)=tD from hW.symm];rw [hsz]at A9;have FP:Hid (EW V X R U D (uA d rb bb db) (ee (H_ i) (EJ i) (some ⟨sb,0,none⟩) 1).cells ga gc us tD):=Vh.grow x9;have HSA:=ah A9;clear hW x9 A9 hsz Vh;obtain ⟨x,hx⟩: ∃x,x=ee (H_ i) (EJ i) (some ⟨sb,0,none⟩) 1:=⟨_,rfl⟩;rw [<-hx]at FP;have uI:=ah hx;clear hx;have kx:tD.cell? ⟨X,4,none⟩=some (.slice ga us.length gc):=FP.o.cg.cell 4;have X6:=FP.o.u.adds;iterate 7 go_step
   refine br rfl 55 _ rfl ⟨U,0,none⟩ rfl x.cells _ X6 rfl rfl ax ?_;refine ij rfl 27 _ rfl 55 (.agg kp.cells.toArray) 22 216 underlying27 Tryz.info_unitE aq aq x.cells rfl rfl ?_;intro OH X7 vV;have NC:=ah (FP.o.grow vV);have DN:=ah (HSA.o.ext vV);have BK:Hid (us.length<=3):=by show _<=_;rw [Ov.o.1];exact hi
   have YR:Hid (D<=OH.heap.size/\sb<OH.heap.size):=⟨bA NC.o.lo,DN.o.lt⟩;clear kx X6 FP HSA vV;refine wpList_plain rfl λK hK=> ?_;refine gD OH (.tmp 44) (.tmp 46) 27 rfl D 55 (.agg kp.cells.toArray) 22 216 underlying27 Tryz.info_unitE rfl aq (.slice ga us.length gc) us.length (us.map aP.cells).flatten rfl (by have:=NC.o.own.own;rw [List.length_map]at this;exact this) tD.heap.size x.cells rfl rfl X7 rfl (bA BK.o) aq YR.o.1 ?_;intro v1 VT ho he hb hz hv
   have hSX:ct OH 2 x.sa x.sc (x.aY.map dy.cells)/\ ∀p,x.sa=some p->D<=p.block/\p.block<OH.heap.size/\ ∀q,ga=some q->p.block≠q.block:=by
    rw [uI.o];refine ⟨Ey DN.o,λp hp=> ?_⟩;have e:(⟨sb,0,none⟩:Addr)=p:=Option.some.inj hp;subst e;exact ⟨zv.o.1,YR.o.2,zv.o.2⟩
   obtain ⟨g2,k2,rfl,TD,hEW⟩:=NC.o.push (x:=x) ho.o he.o hb.o hz.o hv.o hSX;refine hK _ _ ?_;have kx5:VT.cell? ⟨X,4,none⟩=some (.slice ga us.length gc):=TD.cell 4;have fx5:=TD.frozen 4;rw [show x.cells=TZ {data:= #[H_ i]} 0 (EJ i) (.slice (some ⟨sb,0,none⟩) 1 1)from by rw [uI.o];rfl]at hEW;have I8:=ah hEW;have Vb:Hid (GG (i+1) (us++ [x])):=by rw [uI.o];exact Ov.o.snoc _ _
   clear hEW TD hSX ho he hb hz hv hK NC DN X7;go_wp2
   exact ⟨⟨i+1,us++ [x],g2,k2,_,_,_,_,ae,Vb.o,I8.o,bf⟩,a_⟩
  .obtain rfl:i=3:=ae
   obtain ⟨s0,c0,s1,c1,s2,c2,rfl⟩:=Ov.o.three;have Jv:=HE.o.cg.adds;go_wp2_with (first|(refine br rfl 32 _ rfl ⟨X,0,none⟩ rfl _ _ Jv rfl rfl ax ?_)|(refine cX rfl 32 _ _ rfl R kG.cells _ HE.o.res rfl rfl ax rfl rfl ?_;intro Ci my eW))
   have hC:bm wr {uA d rb bb db with ua:=ga,uc:=gc,aA:= [ee 103 30 s0 c0,ee 104 30 s1 c1,ee 105 20 s2 c2]}:=SZ HE.o.case' (JT HE.o.own) (λx hx=>(HE.o.aY x hx).1)
   exact bodyPost_ret (v:= .agg _) (jo 2 _ rfl rfl my rfl rfl ax) rfl ⟨_,rfl,⟨rfl,rfl,⟨_,_,rfl⟩,rfl,⟨_,_,_,_,_,_,rfl⟩,rfl,rfl,rfl⟩,hC.but eW (S0 (HE.o.old.mono λb hb=>hb.2.2.2.2) (λp hp=>by have:=(HE.o.own.own.lt p.block (by rw [hp];rfl)).1;have:=S4.o;omega) (λx hx=>⟨λp hp=>qj (((HE.o.aY x hx).2 p hp).1) S4.o,by
    simp only [List.mem_cons,List.not_mem_nil,or_false]at hx;rcases hx with rfl|rfl|rfl<;>exact eY.none _⟩)),eW.ext HE.o.ext S4.o.1⟩
