/- Texts of the proof. -/
import Derived.Test.YtkpngkdgphojlaaGreatCc27
import Derived.Test.YtkpngkdgphojlaaGreatCc28
set_option linter.all false
namespace Go.Proofs.YtkpngkdgphojlaaGreat
open Go.RowKit
def CV:Nat→UInt8|0=>103|1=>104|_=>105
def Ao:Nat→Int|0=>30|1=>30|_=>20
def B7 (n:Nat) (us:List aF):Prop:=us.length=n∧ ∀j (h:j<us.length),∃s c,us[j]=dx (CV j) (Ao j) s c
theorem B7.snoc {n:Nat} {us:List aF} (h:B7 n us) (s:Option Addr) (c:Nat):B7 (n+1) (us++ [dx (CV n) (Ao n) s c]):=by
 refine ⟨by rw [List.length_append,h.1];rfl,fun j hj=> ?_⟩;by_cases hlt:j<us.length
 ·rw [List.getElem_append_left hlt];exact h.2 j hlt
 ·have e:j=us.length:=by rw [List.length_append]at hj;simp at hj;omega
  subst e;exact ⟨s,c,by rw [List.getElem_append_right (Nat.le_refl _)];simp [h.1]⟩
theorem RT {α:Type}: ∀(l:List α),l.length=3→ ∃a b c,l= [a,b,c]
 | [a,b,c],_=>⟨a,b,c,rfl⟩
theorem B7.three {us:List aF} (h:B7 3 us): ∃s0 c0 s1 c1 s2 c2,us= [dx 103 30 s0 c0,dx 104 30 s1 c1,dx 105 20 s2 c2]:=by
 obtain ⟨h0,h⟩:=h;obtain ⟨a,b,c,rfl⟩:=RT us h0;obtain ⟨s0,c0,e0⟩:=h 0 (by simp);obtain ⟨s1,c1,e1⟩:=h 1 (by simp);obtain ⟨s2,c2,e2⟩:=h 2 (by simp);clear h;simp only [List.getElem_cons_zero,List.getElem_cons_succ,CV,Ao]at e0 e1 e2;subst e0 e1 e2;exact ⟨s0,c0,s1,c1,s2,c2,rfl⟩
theorem zO {w:World} {b:Nat} {x:Int} (h:aG w b 3 [i64 x]) (hx:br x):aA w (some ⟨b,0,none⟩) 1 [x]:=
 ⟨by simp,by omega,fun i hi=>⟨b,0,rfl,by
     have h0:i=0:=by simpa using hi
     subst h0;exact h.cell 0⟩,fun i hi=>by
     have h0:i=0:=by simpa using hi
     subst h0;unfold br at hx;simp;omega⟩
theorem zP {w:World} {b m:Nat} {T:TypeId} {r:List Value} (h:aG w b T r):bP w m (some ⟨b,0,none⟩) 1 [r]:=
 ⟨by simp,by omega,fun i hi=>⟨b,0,rfl,fun j hj=>by
     have h0:i=0:=by simpa using hi
     subst h0;rw [Nat.zero_mul,Nat.zero_add,h.cell j];exact List.getElem?_eq_getElem hj⟩⟩
def qK (d:Int) (rb bb db:Nat):aq:=⟨1,some ⟨rb,0,none⟩,1,[0],some ⟨bb,0,none⟩,1,[⟨{data:= #[97]},some ⟨db,0,none⟩,1,[d],0⟩],none,0,[],none,0,[],none,0,[],none,0,[],none,0,[]⟩
theorem bP.H5 (w:World) (m:Nat):bP w m none 0 []:=⟨Nat.le_refl _,by decide,fun i hi=>absurd hi (Nat.not_lt_zero _)⟩
theorem Ki {w:World} {d:Int} {rb bb db:Nat} (hd:br d) (h1:aG w rb 3 [i64 0]) (h2:aG w db 3 [i64 d]) (h3:aG w bb 74 [.string {data:= #[97]},.slice (some ⟨db,0,none⟩) 1 1,i64 0]):aT w (qK d rb bb db):=
 have z:br 0:=by unfold br;omega
 ⟨by show br 1;unfold br;omega,zO h1 z,zP h3,fun b hb=>by
   rw [show b=⟨{data:= #[97]},some ⟨db,0,none⟩,1,[d],0⟩from by simpa [qK]using hb];exact ⟨by show 1≤maxLen;decide,zO h2 hd,z⟩,bP.H5 _ _,fun _ h=>(by cases h),bP.H5 _ _,fun _ h=>(by cases h),bP.H5 _ _,fun _ h=>(by cases h),bP.H5 _ _,fun _ h=>(by cases h),bP.H5 _ _,fun _ h=>(by cases h)⟩
theorem Kj {P:Nat→Prop} {d:Int} {rb bb db:Nat} (h1:P rb) (h2:P bb) (h3:P db):dv P (qK d rb bb db):=
 ⟨fun p e=>by cases e;exact h1,fun p e=>by cases e;exact h2,fun b hb=>by
   rw [show b=⟨{data:= #[97]},some ⟨db,0,none⟩,1,[d],0⟩from by simpa [qK]using hb];intro p e;cases e;exact h3,fg.none _,fun _ h=>(by cases h),fg.none _,fun _ h=>(by cases h),fg.none _,fg.none _,fun _ h=>(by cases h),fg.none _,fun _ h=>(by cases h)⟩
theorem NH {w:World} {d:Int} {rb bb db:Nat} {ga:Option Addr} {gc:Nat} {s0 s1 s2:Option Addr} {c0 c1 c2:Nat} (h:aT w (qK d rb bb db)) (hr:bP w 22 ga gc ([dx 103 30 s0 c0,dx 104 30 s1 c1,dx 105 20 s2 c2].map aF.cells))
 (hs: ∀x∈ [dx 103 30 s0 c0,dx 104 30 s1 c1,dx 105 20 s2 c2],bP w 2 x.sa x.sc (x.aI.map cL.cells)):aT w {qK d rb bb db with ua:=ga,uc:=gc,aj:= [dx 103 30 s0 c0,dx 104 30 s1 c1,dx 105 20 s2 c2]}:=
 ⟨h.hours,h.az,h.au,h.cX,h.lines,h.line,hr,fun u hu=>by
   have h1:=hs u hu
   obtain ⟨n,m,s,c,rfl,hm⟩: ∃n m s c,u=dx n m s c∧(m=30∨m=20):=by
    simp only [List.mem_cons,List.not_mem_nil,or_false]at hu;rcases hu with rfl|rfl|rfl
    ·exact ⟨_,_,_,_,rfl,.inl rfl⟩
    ·exact ⟨_,_,_,_,rfl,.inl rfl⟩
    ·exact ⟨_,_,_,_,rfl,.inr rfl⟩
   refine ⟨by show 1≤maxLen;decide,aA.nil _,h1,fun s hs=> ?_,fun z hz=> ?_⟩
   ·rw [show s=⟨m,2⟩from by simpa [dx]using hs]
    intro z hz;simp only [List.mem_cons,List.not_mem_nil,or_false]at hz;unfold br;rcases hz with rfl|rfl<;>omega
   ·simp only [dx,List.mem_cons,List.not_mem_nil,or_false]at hz
    unfold br;omega,h.stores,h.store,h.aN,h.tie,h.outs,h.out⟩
theorem NI {P:Nat→Prop} {d:Int} {rb bb db:Nat} {ga:Option Addr} {gc:Nat} {us:List aF} (h:dv P (qK d rb bb db)) (hg:fg P ga) (hs: ∀x∈us,fg P x.sa∧fg P x.aa):dv P {qK d rb bb db with ua:=ga,uc:=gc,aj:=us}:=
 ⟨h.az,h.au,h.cX,h.lines,h.line,hg,hs,h.stores,h.aN,h.tie,h.outs,h.out⟩
def H6:List Value:= [.string {data:= #[103]},.string {data:= #[104]},.string {data:= #[105]}]
def H7:List Value:= [i64 30,i64 30,i64 20]
theorem Kk {i:Nat} (h:i<3):H6[i]?=some (.string {data:= #[CV i]}):=by
 match i,h with
 |0,_=>rfl
 |1,_=>rfl
 |2,_=>rfl
theorem Kl {i:Nat} (h:i<3):H7[i]?=some (i64 (Ao i)):=by
 match i,h with
 |0,_=>rfl
 |1,_=>rfl
 |2,_=>rfl
def NJ (n U i:Nat) (k:Nat) (v:Value) (w:World):Prop:=match k with
 |0=> ∃B,n≤B∧v= .slice (some ⟨B,0,none⟩) 3 3∧aG w B 9 H6
 |1=>v=i64 i
 |2=> ∃B,n≤B∧v= .pointer (some ⟨B,i,none⟩)∧aG w B 9 H6
 |3=>v= .string {data:= #[CV i]}
 |4=> ∃B,n≤B∧v= .slice (some ⟨B,0,none⟩) 3 3∧aG w B 3 H7
 |5=>v=i64 i
 |6=> ∃B,n≤B∧v= .pointer (some ⟨B,i,none⟩)∧aG w B 3 H7
 |7=>v=i64 (Ao i)
 |8=>v= .pointer (some ⟨U,0,none⟩)
 |9=>w.cell? ⟨U,0,none⟩=some (.string {data:= #[CV i]})
 |10=>v= .pointer (some ⟨U,2,none⟩)
 |11=>w.cell? ⟨U,2,none⟩=some (i64 0)
 |_=>True
theorem CX {n U i:Nat} {w w':World} (x:Ext w w') {k:Nat} {v:Value} (h:NJ n U i k v w):NJ n U i k v w':=by
 unfold NJ at*;split at h
 ·obtain ⟨B,h1,h2,h3⟩:=h;exact ⟨B,h1,h2,h3.ext x⟩
 ·exact h
 ·obtain ⟨B,h1,h2,h3⟩:=h;exact ⟨B,h1,h2,h3.ext x⟩
 ·exact h
 ·obtain ⟨B,h1,h2,h3⟩:=h;exact ⟨B,h1,h2,h3.ext x⟩
 ·exact h
 ·obtain ⟨B,h1,h2,h3⟩:=h;exact ⟨B,h1,h2,h3.ext x⟩
 ·exact h
 ·exact h
 ·exact ai x h
 ·exact h
 ·exact ai x h
 ·trivial
theorem CY {n U i o:Nat} {w:World} {k:Nat} {u v:Value} (hU:U<n) (ho:(o=0∧k≠9)∨(o=2∧k≠11)) (h:NJ n U i k v w):NJ n U i k v (w.setCell ⟨U,o,none⟩ u):=by
 unfold NJ at*;split at h
 ·obtain ⟨B,h1,h2,h3⟩:=h;exact ⟨B,h1,h2,h3.other _ _ (by show U≠B;omega)⟩
 ·exact h
 ·obtain ⟨B,h1,h2,h3⟩:=h;exact ⟨B,h1,h2,h3.other _ _ (by show U≠B;omega)⟩
 ·exact h
 ·obtain ⟨B,h1,h2,h3⟩:=h;exact ⟨B,h1,h2,h3.other _ _ (by show U≠B;omega)⟩
 ·exact h
 ·obtain ⟨B,h1,h2,h3⟩:=h;exact ⟨B,h1,h2,h3.other _ _ (by show U≠B;omega)⟩
 ·exact h
 ·exact h
 ·have:o≠0:=by omega
  go_simp
 ·exact h
 ·have:o≠2:=by omega
  go_simp
 ·trivial
theorem Zt {V w Y:World} {X R U D n:Nat} {x0:aq} {mx:Int} {sg:Value} {ga:Option Addr} {gc:Nat} {us:List aF} (h:(∃nm mn,EW V X R U D x0 (OM nm mn mx sg) ga gc us w)∧n≤w.heap.size) (x:Ext w Y):(∃nm mn,EW V X R U D x0 (OM nm mn mx sg) ga gc us Y)∧n≤Y.heap.size:=by
 obtain ⟨⟨nm,mn,h1⟩,h2⟩:=h;exact ⟨⟨nm,mn,h1.grow x⟩,Nat.le_trans h2 x.size⟩
set_option maxHeartbeats 4000000 in
set_option maxRecDepth 100000 in
theorem od (V:World) (d:Int) (hd:br d):
 Calls Tryz.prog 43 #[i64 d] V fun e w'=> ∃c:aq,e= .returned (.agg c.cells.toArray)∧jR d c∧aT w' c∧Ext V w':=by
 have HD:=ae hd;clear hd;go_enter Tryz.func43,Tryz.ntmps43
 go_upto_region 1 with fail
 obtain ⟨W0,hW,x0,-,A0⟩:=aB V 32 jc.cells;rw [show V.alloc (.cells #[i64 0,.slice none 0 0,.slice none 0 0,.slice none 0 0,.slice none 0 0,.slice none 0 0,.slice none 0 0,.slice none 0 0] 32)=W0 from hW.symm];obtain ⟨R,hR⟩: ∃R,R=V.heap.size:=⟨_,rfl⟩;rw [←hR]at A0⊢;have HR:=ae A0;have HX:=ae x0;have xP:Hid (V.heap.size≤R):=Nat.le_of_eq hR.symm
 clear hW x0 A0 hR;go_wp2_with fail
 refine (B5 W0).mono ?_;rintro e W1 ⟨gb,rb,db,bb,ub,sv,rfl,CM,K_,hlt,hg,hr,RU,hb,hu,x1⟩;have EU:=ae CM;have Tj:=ae K_;have mG:=ae hlt;have HG:=ae hg;have ES:=ae hr;have wk:=ae RU;have kr:=ae hb;have NK:=ae hu;have eK:=ae x1
 clear CM K_ hlt hg hr RU hb hu x1;obtain ⟨W2,hW2,x2,-,A0,A1⟩:=fP W1 32 jc.cells 153 jn;obtain ⟨X,hX⟩: ∃X,X=W1.heap.size:=⟨_,rfl⟩
 have Le:aG ((W1.alloc (.cells #[i64 0,.slice none 0 0,.slice none 0 0,.slice none 0 0,.slice none 0 0,.slice none 0 0,.slice none 0 0,.slice none 0 0] 32)).alloc (.cells #[.slice none 0 0,.slice none 0 0,.slice none 0 0,.slice none 0 0,.slice none 0 0,.slice none 0 0,.slice none 0 0,.slice none 0 0] 153)) W1.heap.size 32 jc.cells:=by
  have h:=A0;rw [hW2]at h;exact h
 have Qa:aG ((W1.alloc (.cells #[i64 0,.slice none 0 0,.slice none 0 0,.slice none 0 0,.slice none 0 0,.slice none 0 0,.slice none 0 0,.slice none 0 0] 32)).alloc (.cells #[.slice none 0 0,.slice none 0 0,.slice none 0 0,.slice none 0 0,.slice none 0 0,.slice none 0 0,.slice none 0 0,.slice none 0 0] 153)) (W1.heap.size+1) 153 jn:=by
  have h:=A1;rw [hW2]at h;exact h
 have Zu:Ext W1 ((W1.alloc (.cells #[i64 0,.slice none 0 0,.slice none 0 0,.slice none 0 0,.slice none 0 0,.slice none 0 0,.slice none 0 0,.slice none 0 0] 32)).alloc (.cells #[.slice none 0 0,.slice none 0 0,.slice none 0 0,.slice none 0 0,.slice none 0 0,.slice none 0 0,.slice none 0 0,.slice none 0 0] 153)):=((Ext.refl _).alloc _).alloc _;clear hW2 x2 A0 A1;have bt:=ae Qa;have KO:=ae Zu;have lW:Hid (R<gb):=Nat.lt_of_lt_of_le HR.out.lt mG.out.1
 clear Qa Zu;go_upto_region 2 with(first|(refine bF rfl 32 _ _ rfl W1.heap.size jc.cells (jT rb bb ub) Le rfl rfl (by kernel_rfl) rfl rfl ?_;intro W3 K8 hx3)|(refine bF rfl 153 _ _ rfl (W1.heap.size+1) jn sv (bt.out.but hx3 (Nat.succ_ne_self _)) rfl rfl (by rw [EU.out];kernel_rfl) (by rw [EU.out];rfl) Tj.out ?_;intro W4 Hj fN))
 have hold: ∀b T cs,aG W1 b T cs→aG W4 b T cs:=fun b T cs h=>((h.ext KO.out).but hx3 (by have:=h.lt;omega)).but fN (by have:=h.lt;omega);have Zv:aG W4 X 32 (jT rb bb ub):=by rw [hX];exact K8.but fN (by omega)
 have Zw:=hold _ _ _ (HR.out.ext eK.out);have hRX:R<X:=by rw [hX];exact (HR.out.ext eK.out).lt
 have Zx:Ext V W4:=by
  have h1:=HX.out.trans eK.out;have h2:=h1.size;exact fN.ext (hx3.ext (h1.trans KO.out) h2) (by omega)
 have hUX:ub<X:=by rw [hX];exact NK.out.lt
 replace HG:=ae (hold _ _ _ HG.out);replace ES:=ae (hold _ _ _ ES.out);replace wk:=ae (hold _ _ _ wk.out);replace kr:=ae (hold _ _ _ kr.out);replace NK:=ae (hold _ _ _ NK.out)
 rw [←hX];replace HR:=ae Zw;have xU:=ae Zv;replace HX:=ae Zx
 have Wa:Hid (V.heap.size≤gb∧gb<rb∧rb<db∧db<bb∧bb<ub∧ub<X∧V.heap.size≤R∧R<X∧R<gb):=by
  have h1:=mG.out;have h2:=xP.out;have h3:=lW.out
  show _∧_∧_∧_∧_∧_∧_∧_∧_;omega
 clear hold Zv Zw Zx hUX hRX K8 hx3 Hj fN bt KO Le hX eK mG xP lW;have kx:W4.cell? ⟨X,2,none⟩=some (.slice (some ⟨bb,0,none⟩) 1 1):=xU.out.cell 2;have kb:W4.cell? ⟨bb,1,none⟩=some (.slice (some ⟨db,0,none⟩) 1 1):=kr.out.cell 1;have kd:W4.cell? ⟨db,0,none⟩=some (i64 15):=wk.out.cell 0;have fd:=wk.out.frozen 0;go_upto_region 3 with fail
 clear kx kb kd fd;have hs:=(ak.refl db W4).et (o:=0) (v:=i64 d);have h0:=Wa.out;replace HG:=ae (HG.out.but hs (by omega));replace ES:=ae (ES.out.but hs (by omega));replace kr:=ae (kr.out.but hs (by omega));replace NK:=ae (NK.out.but hs (by omega));replace xU:=ae (xU.out.but hs (by omega));replace HR:=ae (HR.out.but hs (by omega))
 replace wk:Hid (aG (W4.setCell ⟨db,0,none⟩ (i64 d)) db 3 [i64 d]):=wk.out.set 0 (i64 d);replace HX:=ae (hs.ext HX.out (by omega));clear hs h0;generalize W4.setCell ⟨db,0,none⟩ (i64 d)=W5 at*;have kx:W5.cell? ⟨X,4,none⟩=some (.slice (some ⟨ub,0,none⟩) 1 1):=xU.out.cell 4;have RV:=NK.out.adds;go_upto_region 4 with(first|(refine aQ rfl 67 _ rfl ⟨ub,0,none⟩ rfl (gq gb) _ RV rfl rfl (by kernel_rfl) ?_)|(refine bD rfl 67 _ _ rfl jb.cells (gq gb) rfl rfl (by kernel_rfl) rfl rfl ?_))
 clear kx RV;obtain ⟨W6,hW,x6,-,A6⟩:=aB W5 67 (gq gb);rw [show W5.alloc (.cells (gq gb).toArray 67)=W6 from hW.symm];obtain ⟨U,hU⟩: ∃U,U=W5.heap.size:=⟨_,rfl⟩;rw [←hU]at A6⊢;have Zy:Hid (X<U):=by(show _<_;rw [hU];exact xU.out.lt)
 have HU:=ae A6;replace HG:=ae (HG.out.ext x6);replace ES:=ae (ES.out.ext x6);replace kr:=ae (kr.out.ext x6);replace wk:=ae (wk.out.ext x6);replace xU:=ae (xU.out.ext x6);replace HR:=ae (HR.out.ext x6);replace HX:=ae (HX.out.trans x6)
 clear hW x6 A6 hU NK;have kx:W6.cell? ⟨X,4,none⟩=some (.slice (some ⟨ub,0,none⟩) 1 1):=xU.out.cell 4;have fx:=xU.out.frozen 4
 go_upto_block 0 with fail
 clear kx fx;have hs:=(ak.refl X W6).et (o:=4) (v:= .slice none 0 0);have h0:=Wa.out;have h1:=Zy.out
 obtain ⟨D,hD⟩: ∃D,D=(W6.setCell ⟨X,4,none⟩ (.slice none 0 0)).heap.size:=⟨_,rfl⟩;have Wb:=HU.out.but hs (by omega);have hDU:U<D:=by rw [hD];exact Wb.lt
 have Zz:Hid (EW V X R U D (qK d rb bb db) (OM {data:= #[103]} 10 20 (.slice (some ⟨gb,0,none⟩) 1 1)) none 0 [] (W6.setCell ⟨X,4,none⟩ (.slice none 0 0))):=
  ⟨xU.out.set 4 (.slice none 0 0),HR.out.but hs (by omega),Wb,hs.ext HX.out (by omega),Ki HD.out (ES.out.but hs (by omega)) (wk.out.but hs (by omega)) (kr.out.but hs (by omega)),Kj (by omega) (by omega) (by omega),aH.nil _ _ _ _,fun _ h=>(by cases h),by omega⟩
 have NL:Hid (V.heap.size≤R∧X<D∧R<D∧U<D):=by(show _∧_∧_∧_;omega)
 clear hs h0 h1 Wb hDU hD HG ES kr wk xU HR HX HU Wa Zy EU Tj;generalize W6.setCell ⟨X,4,none⟩ (.slice none 0 0)=W7 at*;go_wp2_with fail
 go_loopw [6] (fun iv wr=> ∃(i:Nat) (us:List aF) (ga:Option Addr) (gc:Nat) (nm:ByteArray) (mn mx:Int) (sg:Value),i≤3∧B7 i us∧EW V X R U D (qK d rb bb db) (OM nm mn mx sg) ga gc us wr∧iv= .int .i64 i) (fun iv _=>3-(intOf iv).toNat)
 case atStart=>exact ⟨0,[],none,0,_,_,_,_,by omega,⟨rfl,fun j h=>absurd h (Nat.not_lt_zero _)⟩,Zz.out,rfl⟩
 case round=>
  clear Zz;obtain ⟨i,us,ga,gc,nm,mn,mx,sg,hi,Dv,ZA,rfl⟩:=hrel;have Cp:=ae Dv;have HE:=ae ZA
  clear Dv ZA;by_cases hlt:i<3
  ·have fM:(0:Int)≤(i:Int):=by omega
   have fH:(i:Int)<3:=by omega
   go_upto_region 8 with fail
   have hMN: ∀w w':World,Ext w w'→w.heap.size≤w'.heap.size:=fun _ _ h=>h.size;refine pQ [some 27,some 28,some 29,some 30,some 31,some 32,some 33,some 34,some 35,none,some 36,none] (NJ wr.heap.size U i) (fun w=>(∃nm mn,EW V X R U D (qK d rb bb db) (OM nm mn mx sg) ga gc us w)∧wr.heap.size≤w.heap.size) (fun f=>by simp only [nH,sS,Act.put];rfl) (by kernel_rfl) (by kernel_rfl) (by decide) (by rfl) (fun _ _ _ _ _ h=>h) ⟨⟨nm,mn,HE.out.grow ((Ext.refl _).drew)⟩,Nat.le_refl _⟩ ?step ?rest
   case step=>
    as_aux_lemma=>
     have ZC:Hid (U<wr.heap.size):=HE.out.u.lt;clear HE;refine er.cons rfl (fun f w hG hd K hK=> ?_) (er.take rfl (fun f w hG hd=>⟨i64 i,by go_simp,rfl⟩) (er.take rfl (fun f w hG hd=> ?_) (er.take rfl (fun f w hG hd=> ?_) (er.cons rfl (fun f w hG hd K hK=> ?_) (er.take rfl (fun f w hG hd=>⟨i64 i,by go_simp,rfl⟩) (er.take rfl (fun f w hG hd=> ?_) (er.take rfl (fun f w hG hd=> ?_) (er.take rfl (fun f w hG hd=>⟨.pointer (some ⟨U,0,none⟩),by go_simp,rfl⟩) (er.cons rfl (fun f w hG hd K hK=> ?_) (er.take rfl (fun f w hG hd=>⟨.pointer (some ⟨U,2,none⟩),by go_simp,rfl⟩) (er.cons rfl (fun f w hG hd K hK=> ?_) er.nil)))))))))))
     ·go_simp
      obtain ⟨Y,hW,xa,-,A⟩:=aB w 9 [.string {data:= #[103]},.string {data:= #[104]},.string {data:= #[105]}];rw [show w.alloc (.cells #[.string {data:= #[103]},.string {data:= #[104]},.string {data:= #[105]}] 9)=Y from hW.symm];exact hK.out _ _ (Zt hG xa) ⟨_,hG.2,rfl,A⟩ (fun j u _ _ h=>CX xa h)
     ·obtain ⟨B,hB,d0,hA⟩: ∃B,wr.heap.size≤B∧f 0= .slice (some ⟨B,0,none⟩) 3 3∧aG w B 9 H6:=hd ⟨0,.data⟩ (by simp) rfl
      have d1:f 1=i64 i:=hd ⟨1,.data⟩ (by simp) rfl;exact ⟨.pointer (some ⟨B,i,none⟩),by go_simp,B,hB,rfl,hA⟩
     ·obtain ⟨B,hB,d0,hA⟩: ∃B,wr.heap.size≤B∧f 2= .pointer (some ⟨B,i,none⟩)∧aG w B 9 H6:=hd ⟨2,.data⟩ (by simp) rfl
      have e0:w.cell? ⟨B,i,none⟩=some (.string {data:= #[CV i]}):=(hA.cell i).trans (Kk hlt);exact ⟨.string {data:= #[CV i]},by go_simp,rfl⟩
     ·go_simp
      obtain ⟨Y,hW,xa,-,A⟩:=aB w 3 [i64 30,i64 30,i64 20];rw [show w.alloc (.cells #[i64 30,i64 30,i64 20] 3)=Y from hW.symm];exact hK.out _ _ (Zt hG xa) ⟨_,hG.2,rfl,A⟩ (fun j u _ _ h=>CX xa h)
     ·obtain ⟨B,hB,d0,hA⟩: ∃B,wr.heap.size≤B∧f 4= .slice (some ⟨B,0,none⟩) 3 3∧aG w B 3 H7:=hd ⟨4,.data⟩ (by simp) rfl
      have d1:f 5=i64 i:=hd ⟨5,.data⟩ (by simp) rfl;exact ⟨.pointer (some ⟨B,i,none⟩),by go_simp,B,hB,rfl,hA⟩
     ·obtain ⟨B,hB,d0,hA⟩: ∃B,wr.heap.size≤B∧f 6= .pointer (some ⟨B,i,none⟩)∧aG w B 3 H7:=hd ⟨6,.data⟩ (by simp) rfl
      have e0:w.cell? ⟨B,i,none⟩=some (i64 (Ao i)):=(hA.cell i).trans (Kl hlt);exact ⟨i64 (Ao i),by go_simp,rfl⟩
     ·have d8:f 8= .pointer (some ⟨U,0,none⟩):=hd ⟨8,.data⟩ (by simp) rfl
      have d3:f 3= .string {data:= #[CV i]}:=hd ⟨3,.data⟩ (by simp) rfl;obtain ⟨⟨nm,mn,hE⟩,hS⟩:=hG;have c0:w.cell? ⟨U,0,none⟩=some (.string nm):=hE.u.cell 0;have f0:=hE.u.frozen 0;simp only [d8,d3]at hK;go_simp;exact hK.out undef _ ⟨⟨_,mn,hE.Kf 0 (.string {data:= #[CV i]})⟩,by simpa using hS⟩ ((hE.u.set 0 _).cell 0) (fun j u _ hj h=>CY ZC.out (Or.inl ⟨rfl,hj⟩) h)
     ·have d8:f 10= .pointer (some ⟨U,2,none⟩):=hd ⟨10,.data⟩ (by simp) rfl
      obtain ⟨⟨nm,mn,hE⟩,hS⟩:=hG;have c0:w.cell? ⟨U,2,none⟩=some (i64 mn):=hE.u.cell 2;have f0:=hE.u.frozen 2;simp only [d8]at hK;go_simp;exact hK.out undef _ ⟨⟨nm,_,hE.Kf 2 (i64 0)⟩,by simpa using hS⟩ ((hE.u.set 2 _).cell 2) (fun j u _ hj h=>CY ZC.out (Or.inr ⟨rfl,hj⟩) h)
   intro f w hG hD;have d7:f 7=i64 (Ao i):=hD 7 (by decide);obtain ⟨⟨nm2,mn2,hE⟩,-⟩:=hG;have c0:some (Value.string nm2)=some (.string {data:= #[CV i]}):=(hE.u.cell 0).symm.trans (hD 9 (by decide));have c2:some (i64 mn2)=some (i64 0):=(hE.u.cell 2).symm.trans (hD 11 (by decide));clear hD;simp only [Option.some.injEq,Value.string.injEq,Value.int.injEq,true_and]at c0 c2;subst c0 c2;clear HE;have HE:=ae hE;clear hE hMN;refine k9 (S:=fun _=>True) (R:=fun _=>True) (Z:=fun _=>false) _ _ _ _ ?_;refine av 12 (.pointer (some ⟨U,3,none⟩)) rfl trivial trivial ?_;try simp only [sS,Act.put]
   refine cG 13 rfl (fun Kc hK=> ?_);have c3:w.cell? ⟨U,3,none⟩=some (i64 mx):=HE.out.u.cell 3;have f3:=HE.out.u.frozen 3;go_simp;refine hK.out _ _ trivial trivial (fun _ _=> ?_);refine ax (by kernel_rfl) ?_ _;clear hK Kc c3 f3;have sy:=ae (HE.out.Kf 3 (i64 (Ao i)));clear HE;generalize w.setCell ⟨U,3,none⟩ (i64 (Ao i))=W8 at*;have e3:W8.cell? ⟨U,3,none⟩=some (i64 (Ao i)):=sy.out.u.cell 3;have e4:W8.cell? ⟨U,4,none⟩=some sg:=sy.out.u.cell 4;have f4:=sy.out.u.frozen 4;have hUs:U<W8.heap.size:=sy.out.u.lt;go_upto_region 10 with fail
   clear e3 e4 f4;obtain ⟨sb,Jp⟩: ∃sb,sb=W8.heap.size:=⟨_,rfl⟩;rw [←Jp];have Pq:=sy.out.Kf 4 (.slice (some ⟨sb,0,none⟩) 1 1);have hsz:(W8.setCell ⟨U,4,none⟩ (.slice (some ⟨sb,0,none⟩) 1 1)).heap.size=sb:=by rw [World.size_setCell];exact Jp.symm
   have Co:Hid (D≤sb∧ ∀q,ga=some q→sb≠q.block):=⟨by have:=sy.out.lo;omega,fun q hq=>by have:=(sy.out.own.own.lt q.block (by rw [hq];rfl)).2;omega⟩;clear hUs sy d7 Jp;generalize W8.setCell ⟨U,4,none⟩ (.slice (some ⟨sb,0,none⟩) 1 1)=W9 at*;obtain ⟨jG,hW,x9,-,A9⟩:=aB W9 138 [i64 (Ao i),i64 2];rw [show W9.alloc (.cells #[i64 (Ao i),i64 2] 138)=jG from hW.symm];rw [hsz]at A9;have yA:Hid (EW V X R U D (qK d rb bb db) (dx (CV i) (Ao i) (some ⟨sb,0,none⟩) 1).cells ga gc us jG):=Pq.grow x9;have ZE:=ae A9;clear hW x9 A9 hsz Pq;obtain ⟨x,hx⟩: ∃x,x=dx (CV i) (Ao i) (some ⟨sb,0,none⟩) 1:=⟨_,rfl⟩;rw [←hx]at yA;have pT:=ae hx;clear hx;have kx:jG.cell? ⟨X,4,none⟩=some (.slice ga us.length gc):=yA.out.bK.cell 4;have RV:=yA.out.u.adds;iterate 7 go_step
   refine aQ rfl 67 _ rfl ⟨U,0,none⟩ rfl x.cells _ RV rfl rfl (by kernel_rfl) ?_;refine gL rfl 27 _ rfl 67 (.agg jb.cells.toArray) 22 216 Tryz.underlying27 Tryz.info_unitE (by decide) (by decide) x.cells rfl rfl ?_;intro EI RX JT;have IJ:=ae (yA.out.grow JT);have Gv:=ae (ZE.out.ext JT);have rP:Hid (us.length≤3):=by show _≤_;rw [Cp.out.1];exact hi
   have EH:Hid (D≤EI.heap.size∧sb<EI.heap.size):=⟨by have:=IJ.out.lo;omega,Gv.out.lt⟩;clear kx RV yA ZE JT;refine wpList_plain rfl fun K hK=> ?_;refine dS EI (.tmp 44) (.tmp 46) 27 rfl D 67 (.agg jb.cells.toArray) 22 216 Tryz.underlying27 Tryz.info_unitE rfl (by decide) (.slice ga us.length gc) us.length (us.map aF.cells).flatten rfl (by have:=IJ.out.own.own;rw [List.length_map]at this;exact this) jG.heap.size x.cells rfl rfl RX rfl (by have:=rP.out;omega) (by decide) EH.out.1 ?_;intro v1 LK ho he hb hz hv
   have ZF:bP EI 2 x.sa x.sc (x.aI.map cL.cells)∧ ∀p,x.sa=some p→D≤p.block∧p.block<EI.heap.size∧ ∀q,ga=some q→p.block≠q.block:=by
    rw [pT.out];refine ⟨zP Gv.out,fun p hp=> ?_⟩;have e:(⟨sb,0,none⟩:Addr)=p:=Option.some.inj hp;subst e;exact ⟨Co.out.1,EH.out.2,Co.out.2⟩
   obtain ⟨g2,k2,rfl,rK,Wc⟩:=IJ.out.push (x:=x) ho.out he.out hb.out hz.out hv.out ZF;refine hK _ _ ?_;have kx5:LK.cell? ⟨X,4,none⟩=some (.slice ga us.length gc):=rK.cell 4;have fx5:=rK.frozen 4;rw [show x.cells=OM {data:= #[CV i]} 0 (Ao i) (.slice (some ⟨sb,0,none⟩) 1 1)from by rw [pT.out];rfl]at Wc;have Dm:=ae Wc;have KW:Hid (B7 (i+1) (us++ [x])):=by rw [pT.out];exact Cp.out.snoc _ _
   clear Wc rK ZF ho he hb hz hv hK IJ Gv RX;go_wp2_with fail
   exact ⟨⟨i+1,us++ [x],g2,k2,_,_,_,_,by omega,KW.out,Dm.out,by go_num⟩,by simp only [intOf];omega⟩
  ·obtain rfl:i=3:=by omega
   obtain ⟨s0,c0,s1,c1,s2,c2,rfl⟩:=Cp.out.three;have xk:=HE.out.bK.adds;go_wp2_with (first|(refine aQ rfl 32 _ rfl ⟨X,0,none⟩ rfl _ _ xk rfl rfl (by kernel_rfl) ?_)|(refine bF rfl 32 _ _ rfl R jc.cells _ HE.out.res rfl rfl (by kernel_rfl) rfl rfl ?_;intro xh jP dO))
   have hC:aT wr {qK d rb bb db with ua:=ga,uc:=gc,aj:= [dx 103 30 s0 c0,dx 104 30 s1 c1,dx 105 20 s2 c2]}:=NH HE.out.case' (Eo HE.out.own) (fun x hx=>(HE.out.aI x hx).1)
   exact bodyPost_ret (v:= .agg _) (fo 2 _ rfl rfl jP rfl rfl (by kernel_rfl)) rfl ⟨_,rfl,⟨rfl,rfl,⟨_,_,rfl⟩,rfl,⟨_,_,_,_,_,_,rfl⟩,rfl,rfl,rfl⟩,hC.but dO (NI (HE.out.old.mono fun b hb=>hb.2.2.2.2) (fun p hp=>by have:=(HE.out.own.own.lt p.block (by rw [hp];rfl)).1;have:=NL.out;omega) (fun x hx=>⟨fun p hp=>by have:=((HE.out.aI x hx).2 p hp).1;have:=NL.out;omega,by
    simp only [List.mem_cons,List.not_mem_nil,or_false]at hx;rcases hx with rfl|rfl|rfl<;>exact fg.none _⟩)),dO.ext HE.out.ext NL.out.1⟩
end Go.Proofs.YtkpngkdgphojlaaGreat
