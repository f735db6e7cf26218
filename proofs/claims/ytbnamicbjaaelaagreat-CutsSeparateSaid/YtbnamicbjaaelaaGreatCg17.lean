/- Texts of the proof. -/
import Derived.Test.YtbnamicbjaaelaaGreatCg16
set_option linter.all false
set_option maxHeartbeats 4000000
set_option maxRecDepth 100000
namespace Go.Proofs.YtbnamicbjaaelaaGreat
open Go.Proofs.Tryz
open Go.RowKit
def fz (E:List (Nat×Nat)):List (List Value):=E.map λp=> [i64 ((p.1:Nat):Int),i64 ((p.2:Nat):Int)]
theorem fu (E:List (Nat×Nat)):(fz E).length=E.length:=by simp [fz]
theorem uP {w:World} {a:Option Addr} {c:Nat} {E:List (Nat×Nat)} (h:ct w 2 a c (fz E)) (i:Nat) (hi:i<E.length): ∃b o,a=some ⟨b,o,none⟩/\w.cell? ⟨b,o+i*2,none⟩=some (i64 ((E[i].1:Nat):Int))/\w.cell? ⟨b,o+i*2+1,none⟩=some (i64 ((E[i].2:Nat):Int)):=by
 obtain ⟨b,o,ha,hc⟩:=h.cell i (by rw [fu];exact hi);have e:(fz E)[i]'(by rw [fu];exact hi)= [i64 ((E[i].1:Nat):Int),i64 ((E[i].2:Nat):Int)]:=by simp [fz]
 simp only [e]at hc;exact ⟨b,o,ha,hc 0 aG,hc 1 aG⟩
theorem uQ (V:World) (n:Nat) (a:Option Addr) (c:Nat) (E:List (Nat×Nat)) (hn:n<=1000000) (hE:E.length<=1000000) (hP:ct V 2 a c (fz E)) (hb: ∀p∈E,p.1<n/\p.2<n):
 Calls prog 110 #[.int .i64 (n:Int),.slice a E.length c] V λe w'=> ∃b f,e= .returned (.slice (some ⟨b,0,none⟩) n n)/\j3 w' b f n/\Ext V w'/\V.heap.size<=b/\km n E f/\ ∀p∈E,f p.1=f p.2:=by
 have hle:=hP.le;have dS:=hP.cap
 rw [fu]at hle;have HP:=ah hP;have qB:=ah hb
 clear hP hb;go_enter func110,ntmps110
 go_wp2_with (at_make;refine bS _ rfl _ _ 22 rfl 3 (.int .i64 0) 8 underlying22 Tryz.info_int rfl _ _ n rfl rfl rfl rfl ae ae ?_;intro w1 eL hx1 hz1)
 obtain ⟨L,hL⟩: ∃L,L=V.heap.size:=⟨_,rfl⟩;rw [<-hL]at eL⊢;have z_:Hid (V.heap.size<=L):=by show _<=_;omega
 have wm:=ah (j3.zero eL.o);have eC:=ah hx1
 clear eL hx1 hz1 hL;go_loopw [6] (λii wr=> ∃k:Nat,k<=n/\j3 wr L (λb=>if b<k then b else 0) n/\Ext V wr/\ii= .int .i64 k) (λii _=>n-(intOf ii).toNat)
 case atStart=>exact ⟨0,aZ,wm.o,eC.o,rfl⟩
 case round=>
  obtain ⟨k,hk,hT,hX,rfl⟩:=hrel;clear wm eC;by_cases hlt:k<n
  .obtain ⟨c0,f0⟩:=hT.cell k hlt
   have lX:=ah hT.next;have eR:=ah (hX.setCell (p:=⟨L,k,none⟩) z_.o (i64 (k:Int)))
   have b0:(0:Int)<=(k:Int):=ae;have b1:(k:Int)<(n:Int):=ae;clear hT hX;go_wp2
   exact ⟨⟨k+1,ae,lX.o,eR.o,bf⟩,a_⟩
  .obtain rfl:n=k:=ae
   have lX:=ah hT.full;have eR:=ah hX
   clear hT hX;go_wp2_with fail
   go_loopg [7] (sumTo (λb=>b) n+1) (λg aa wl=> ∃(f:Nat->Nat) (ag:Bool),(ag=true->sumTo f n+1<=g)/\j3 wl L f n/\Ext V wl/\km n E f/\(ag=false-> ∀p∈E,f p.1=f p.2)/\aa= .bool ag)
   case atStart=>exact ⟨λb=>b,true,λ_=>bY,lX.o,eR.o,km.start n E,(λe=>by cases e),rfl⟩
   case round=>
    obtain ⟨f,ag,hg,hT,hX,S9,hno,rfl⟩:=hrel;clear lX eR;cases ag with
    |false=>
     have HR:=ah (And.intro hT (And.intro hX (And.intro S9 (hno rfl))));clear hT hX S9 hno hg;go_wp2
     go_ret;exact ⟨L,f,rfl,HR.o.1,HR.o.2.1,z_.o,HR.o.2.2.1,HR.o.2.2.2⟩
    |true=>
     have hg1:=hg rfl;have lX:=ah hT;have eR:=ah hX;have Tr:=ah S9
     have HG:=ah hg1;clear hT hX S9 hno hg hg1;go_wp2
     go_loopw [7,25] (λaa ii wl=> ∃(i:Nat) (g:Nat->Nat) (ag:Bool),i<=E.length/\j3 wl L g n/\Ext V wl/\uO n E f i g ag/\aa= .bool ag/\ii= .int .i64 i) (λ_ ii _=>E.length-(intOf ii).toNat)
     case atStart=>exact ⟨0,f,false,aZ,lX.o,eR.o,uO.start Tr.o,rfl,rfl⟩
     case round=>
      obtain ⟨i,g,ag,hi,hT,hX,hI,rfl,rfl⟩:=hrel;clear lX eR;by_cases hlt:i<E.length
      .obtain ⟨b,o,ha,r0,r1⟩:=uP ((HP.o.ext hX)) i hlt
       obtain ⟨hx,hy⟩:=qB.o E[i] (List.getElem_mem hlt);have vH:=ah (hI.step hlt hx hy);obtain ⟨⟨x,y⟩,mG⟩: ∃p,p=E[i]:=⟨_,rfl⟩;rw [<-mG]at r0 r1 hx hy vH;simp only at r0 r1 hx hy;obtain ⟨gx,hgx⟩: ∃gx,gx=g x:=⟨_,rfl⟩;obtain ⟨gy,hgy⟩: ∃gy,gy=g y:=⟨_,rfl⟩;have Jf:Hid (g x=gx):=hgx.symm;have Jg:Hid (g y=gy):=hgy.symm;have vH:Hid (uO n E f (i+1) (fh g (x,y)) (ag||(g x !=min (g x) (g y))||(g y !=min (g x) (g y)))):=vH.o;have LO:=ah hT;have BH:=ah hX;have uL:=ah ha
       have iM:(0:Int)<=(i:Int):=ae;have iK:(i:Int)<(E.length:Int):=ae;have bx0:(0:Int)<=(x:Int):=ae;have bx1:(x:Int)<(n:Int):=ae;have Ua:(0:Int)<=(y:Int):=ae;have by1:(y:Int)<(n:Int):=ae;clear hT hX hI mG hgx hgy ha;rw [uL.o];go_upto_region 12 with fail
       obtain ⟨W2,hW2,x2,Z2,A2⟩:=aV wr 163 [i64 (x:Int),i64 (y:Int)];rw [show wr.alloc (.cells #[i64 (x:Int),i64 (y:Int)] 163)=W2 from hW2.symm];clear hW2;obtain ⟨Pb,hPb⟩: ∃Pb,Pb=wr.heap.size:=⟨_,rfl⟩;rw [<-hPb]at A2⊢;have ug:L≠Pb:=bA LO.o.lt;have HT:=ah (LO.o.ext x2);have eR:=ah (BH.o.trans x2)
       have p0:W2.cell? ⟨Pb,0,none⟩=some (i64 (x:Int)):=(A2.cell 0).trans rfl;have p1:W2.cell? ⟨Pb,1,none⟩=some (i64 (y:Int)):=(A2.cell 1).trans rfl;have l0:W2.cell? ⟨L,x,none⟩=some (i64 (gx:Int)):=by rw [<-Jf.o];exact (HT.o.cell x hx).1
       have l1:W2.cell? ⟨L,y,none⟩=some (i64 (gy:Int)):=by rw [<-Jg.o];exact (HT.o.cell y hy).1
       clear hPb Z2 A2 r0 r1 x2 LO BH;have hw:gy<gx\/gy=gx\/gx<gy:=ae;cases ag with
       |true=>
        rcases hw with hw|hw|hw
        .have tt:(gy:Int)<(gx:Int):=ae
         have nx:((gx:Int) !=(gy:Int))=true:=by simp;omega
         have ny:((gy:Int) !=(gy:Int))=false:=aG;have HM:Hid (min gx gy=gy):=by(show _=_;omega)
         have Dz:Hid ((true||(gx !=min gx gy)||(gy !=min gx gy))=true):=by(show _=_;rw [HM.o];simp)
         clear hw;go_wp2_with fail
         refine aO (λw'=>w'.cell? ⟨Pb,0,none⟩=some (i64 (x:Int))/\w'.cell? ⟨Pb,1,none⟩=some (i64 (y:Int))/\w'.cell? ⟨L,x,none⟩=some (i64 (gx:Int))/\w'.cell? ⟨L,y,none⟩=some (i64 (gy:Int))) (λw'=>True) (λi=>false) ax (⟨p0,p1,l0,l1⟩) (trivial) (λaD ai=> ?_);refine aJ 0 aD ai ?_;refine aJ 1 aD ai ?_;refine aJ 2 aD ai ?_ (v:= .int .i64 (x:Int));refine aJ 3 aD ai ?_;refine aJ 4 aD ai ?_ (v:=i64 (gx:Int));refine aJ 5 aD ai ?_;refine aJ 6 aD ai ?_;refine aJ 7 aD ai ?_ (v:= .int .i64 (y:Int));refine aJ 8 aD ai ?_;refine aJ 9 aD ai ?_ (v:=i64 (gy:Int));refine aJ 10 aD ai ?_ (v:=i64 (gy:Int)) (hy:=by rintro w ⟨e0,e1,e2,e3⟩;(go_simp<;>omega));refine aJ 11 aD ai ?_ (v:=i64 (gy:Int));refine aI ax ?_ _;clear aD ai;clear tt;have T1:=HT.o.set x gy;have l0:W2.drew.cell? ⟨L,x,none⟩=some (i64 (gx:Int)):=l0;have fx:W2.frozen? ⟨L,x,none⟩=false:=(HT.o.cell x hx).2;have fy:(W2.setCell ⟨L,x,none⟩ (i64 (gy:Int))).frozen? ⟨L,y,none⟩=false:=(T1.cell y hy).2;have vy:(W2.setCell ⟨L,x,none⟩ (i64 (gy:Int))).cell? ⟨L,y,none⟩=some (i64 ((g_ g x gy y:Nat):Int)):=(T1.cell y hy).1;have s0:(W2.setCell ⟨L,x,none⟩ (i64 (gy:Int))).cell? ⟨Pb,0,none⟩=some (i64 (x:Int)):=by rw [World.cell?_setCell_far _ _ _ _ ug];exact p0
         have s1:(W2.setCell ⟨L,x,none⟩ (i64 (gy:Int))).cell? ⟨Pb,1,none⟩=some (i64 (y:Int)):=by rw [World.cell?_setCell_far _ _ _ _ ug];exact p1
         have z0:((W2.setCell ⟨L,x,none⟩ (i64 (gy:Int))).setCell ⟨L,y,none⟩ (i64 (gy:Int))).cell? ⟨Pb,0,none⟩=some (i64 (x:Int)):=by rw [World.cell?_setCell_far _ _ _ _ ug];exact s0
         have z1:((W2.setCell ⟨L,x,none⟩ (i64 (gy:Int))).setCell ⟨L,y,none⟩ (i64 (gy:Int))).cell? ⟨Pb,1,none⟩=some (i64 (y:Int)):=by rw [World.cell?_setCell_far _ _ _ _ ug];exact s1
         clear T1;go_wp2_with fail
         refine aO (λw'=>w'.cell? ⟨Pb,0,none⟩=some (i64 (x:Int))/\w'.cell? ⟨Pb,1,none⟩=some (i64 (y:Int))) (λw'=>True) (λi=>false) ax (⟨p0,p1⟩) (trivial) (λaD ai=> ?_);refine aJ 0 aD ai ?_;refine aJ 1 aD ai ?_;refine aJ 2 aD ai ?_ (v:= .int .i64 (x:Int));refine aJ 3 aD ai ?_;refine aJ 4 aD ai ?_;refine aJ 5 aD ai ?_ (v:= .int .i64 (y:Int));refine aJ 6 aD ai ?_ (v:=i64 (gy:Int));refine aJ 7 aD ai ?_ (v:=i64 (gy:Int));refine aJ 8 aD ai ?_;refine eI 9 rfl (λKc hK=> ?_);go_simp;refine hK.o _ _ (⟨s0,s1⟩) (trivial) (λaD ai=> ?_);clear hK Kc;try simp only [sS]
         refine aJ 10 aD ai ?_;refine eI 11 rfl (λKc hK=> ?_);go_simp;refine hK.o _ _ (⟨z0,z1⟩) (trivial) (λaD ai=> ?_);clear hK Kc;try simp only [sS]
         refine aI ax ?_ _;clear aD ai
         have LP:Hid (j3 ((W2.setCell ⟨L,x,none⟩ (i64 (gy:Int))).setCell ⟨L,y,none⟩ (i64 (gy:Int))) L (fh g (x,y)) n):=by
          show j3 _ _ _ _;have h5:=(HT.o.set x gy).set y gy;have e5:fh g (x,y)=g_ (g_ g x gy) y gy:=by unfold fh;rw [Jf.o,Jg.o,HM.o]
          rw [e5];exact h5
         have LQ:Hid (Ext V ((W2.setCell ⟨L,x,none⟩ (i64 (gy:Int))).setCell ⟨L,y,none⟩ (i64 (gy:Int)))):=(eR.o.setCell z_.o _).setCell z_.o _;have sD:=vH.o;rw [Jf.o,Jg.o,Dz.o]at sD;have sD:=ah sD;clear p0 p1 l0 l1 s0 s1 z0 z1 vy fx fy nx ny;go_wp2
         exact ⟨⟨i+1,fh g (x,y),true,ae,LP.o,LQ.o.drew.drew,sD.o,rfl,bf⟩,a_⟩
        .have tt: ¬((gy:Int)<(gx:Int)):=ae
         have nx:((gx:Int) !=(gx:Int))=false:=aG;have ny:((gy:Int) !=(gx:Int))=false:=by simp;omega
         have HM:Hid (min gx gy=gx):=by(show _=_;omega)
         have Dz:Hid ((true||(gx !=min gx gy)||(gy !=min gx gy))=true):=by(show _=_;rw [HM.o];simp)
         clear hw;go_wp2_with fail
         refine aO (λw'=>w'.cell? ⟨Pb,0,none⟩=some (i64 (x:Int))/\w'.cell? ⟨Pb,1,none⟩=some (i64 (y:Int))/\w'.cell? ⟨L,x,none⟩=some (i64 (gx:Int))/\w'.cell? ⟨L,y,none⟩=some (i64 (gy:Int))) (λw'=>True) (λi=>false) ax (⟨p0,p1,l0,l1⟩) (trivial) (λaD ai=> ?_);refine aJ 0 aD ai ?_;refine aJ 1 aD ai ?_;refine aJ 2 aD ai ?_ (v:= .int .i64 (x:Int));refine aJ 3 aD ai ?_;refine aJ 4 aD ai ?_ (v:=i64 (gx:Int));refine aJ 5 aD ai ?_;refine aJ 6 aD ai ?_;refine aJ 7 aD ai ?_ (v:= .int .i64 (y:Int));refine aJ 8 aD ai ?_;refine aJ 9 aD ai ?_ (v:=i64 (gy:Int));refine aJ 10 aD ai ?_ (v:=i64 (gx:Int)) (hy:=by rintro w ⟨e0,e1,e2,e3⟩;(go_simp<;>omega));refine aJ 11 aD ai ?_ (v:=i64 (gx:Int));refine aI ax ?_ _;clear aD ai;clear tt;have T1:=HT.o.set x gx;have l0:W2.drew.cell? ⟨L,x,none⟩=some (i64 (gx:Int)):=l0;have fx:W2.frozen? ⟨L,x,none⟩=false:=(HT.o.cell x hx).2;have fy:(W2.setCell ⟨L,x,none⟩ (i64 (gx:Int))).frozen? ⟨L,y,none⟩=false:=(T1.cell y hy).2;have vy:(W2.setCell ⟨L,x,none⟩ (i64 (gx:Int))).cell? ⟨L,y,none⟩=some (i64 ((g_ g x gx y:Nat):Int)):=(T1.cell y hy).1;have s0:(W2.setCell ⟨L,x,none⟩ (i64 (gx:Int))).cell? ⟨Pb,0,none⟩=some (i64 (x:Int)):=by rw [World.cell?_setCell_far _ _ _ _ ug];exact p0
         have s1:(W2.setCell ⟨L,x,none⟩ (i64 (gx:Int))).cell? ⟨Pb,1,none⟩=some (i64 (y:Int)):=by rw [World.cell?_setCell_far _ _ _ _ ug];exact p1
         have z0:((W2.setCell ⟨L,x,none⟩ (i64 (gx:Int))).setCell ⟨L,y,none⟩ (i64 (gx:Int))).cell? ⟨Pb,0,none⟩=some (i64 (x:Int)):=by rw [World.cell?_setCell_far _ _ _ _ ug];exact s0
         have z1:((W2.setCell ⟨L,x,none⟩ (i64 (gx:Int))).setCell ⟨L,y,none⟩ (i64 (gx:Int))).cell? ⟨Pb,1,none⟩=some (i64 (y:Int)):=by rw [World.cell?_setCell_far _ _ _ _ ug];exact s1
         clear T1;go_wp2_with fail
         refine aO (λw'=>w'.cell? ⟨Pb,0,none⟩=some (i64 (x:Int))/\w'.cell? ⟨Pb,1,none⟩=some (i64 (y:Int))) (λw'=>True) (λi=>false) ax (⟨p0,p1⟩) (trivial) (λaD ai=> ?_);refine aJ 0 aD ai ?_;refine aJ 1 aD ai ?_;refine aJ 2 aD ai ?_ (v:= .int .i64 (x:Int));refine aJ 3 aD ai ?_;refine aJ 4 aD ai ?_;refine aJ 5 aD ai ?_ (v:= .int .i64 (y:Int));refine aJ 6 aD ai ?_ (v:=i64 (gx:Int));refine aJ 7 aD ai ?_ (v:=i64 (gx:Int));refine aJ 8 aD ai ?_;refine eI 9 rfl (λKc hK=> ?_);go_simp;refine hK.o _ _ (⟨s0,s1⟩) (trivial) (λaD ai=> ?_);clear hK Kc;try simp only [sS]
         refine aJ 10 aD ai ?_;refine eI 11 rfl (λKc hK=> ?_);go_simp;refine hK.o _ _ (⟨z0,z1⟩) (trivial) (λaD ai=> ?_);clear hK Kc;try simp only [sS]
         refine aI ax ?_ _;clear aD ai
         have LP:Hid (j3 ((W2.setCell ⟨L,x,none⟩ (i64 (gx:Int))).setCell ⟨L,y,none⟩ (i64 (gx:Int))) L (fh g (x,y)) n):=by
          show j3 _ _ _ _;have h5:=(HT.o.set x gx).set y gx;have e5:fh g (x,y)=g_ (g_ g x gx) y gx:=by unfold fh;rw [Jf.o,Jg.o,HM.o]
          rw [e5];exact h5
         have LQ:Hid (Ext V ((W2.setCell ⟨L,x,none⟩ (i64 (gx:Int))).setCell ⟨L,y,none⟩ (i64 (gx:Int)))):=(eR.o.setCell z_.o _).setCell z_.o _;have sD:=vH.o;rw [Jf.o,Jg.o,Dz.o]at sD;have sD:=ah sD;clear p0 p1 l0 l1 s0 s1 z0 z1 vy fx fy nx ny;go_wp2
         exact ⟨⟨i+1,fh g (x,y),true,ae,LP.o,LQ.o.drew.drew,sD.o,rfl,bf⟩,a_⟩
        .have tt: ¬((gy:Int)<(gx:Int)):=ae
         have nx:((gx:Int) !=(gx:Int))=false:=aG;have ny:((gy:Int) !=(gx:Int))=true:=by simp;omega
         have HM:Hid (min gx gy=gx):=by(show _=_;omega)
         have Dz:Hid ((true||(gx !=min gx gy)||(gy !=min gx gy))=true):=by(show _=_;rw [HM.o];simp)
         clear hw;go_wp2_with fail
         refine aO (λw'=>w'.cell? ⟨Pb,0,none⟩=some (i64 (x:Int))/\w'.cell? ⟨Pb,1,none⟩=some (i64 (y:Int))/\w'.cell? ⟨L,x,none⟩=some (i64 (gx:Int))/\w'.cell? ⟨L,y,none⟩=some (i64 (gy:Int))) (λw'=>True) (λi=>false) ax (⟨p0,p1,l0,l1⟩) (trivial) (λaD ai=> ?_);refine aJ 0 aD ai ?_;refine aJ 1 aD ai ?_;refine aJ 2 aD ai ?_ (v:= .int .i64 (x:Int));refine aJ 3 aD ai ?_;refine aJ 4 aD ai ?_ (v:=i64 (gx:Int));refine aJ 5 aD ai ?_;refine aJ 6 aD ai ?_;refine aJ 7 aD ai ?_ (v:= .int .i64 (y:Int));refine aJ 8 aD ai ?_;refine aJ 9 aD ai ?_ (v:=i64 (gy:Int));refine aJ 10 aD ai ?_ (v:=i64 (gx:Int)) (hy:=by rintro w ⟨e0,e1,e2,e3⟩;(go_simp<;>omega));refine aJ 11 aD ai ?_ (v:=i64 (gx:Int));refine aI ax ?_ _;clear aD ai;clear tt;have T1:=HT.o.set x gx;have l0:W2.drew.cell? ⟨L,x,none⟩=some (i64 (gx:Int)):=l0;have fx:W2.frozen? ⟨L,x,none⟩=false:=(HT.o.cell x hx).2;have fy:(W2.setCell ⟨L,x,none⟩ (i64 (gx:Int))).frozen? ⟨L,y,none⟩=false:=(T1.cell y hy).2;have vy:(W2.setCell ⟨L,x,none⟩ (i64 (gx:Int))).cell? ⟨L,y,none⟩=some (i64 ((g_ g x gx y:Nat):Int)):=(T1.cell y hy).1;have s0:(W2.setCell ⟨L,x,none⟩ (i64 (gx:Int))).cell? ⟨Pb,0,none⟩=some (i64 (x:Int)):=by rw [World.cell?_setCell_far _ _ _ _ ug];exact p0
         have s1:(W2.setCell ⟨L,x,none⟩ (i64 (gx:Int))).cell? ⟨Pb,1,none⟩=some (i64 (y:Int)):=by rw [World.cell?_setCell_far _ _ _ _ ug];exact p1
         have z0:((W2.setCell ⟨L,x,none⟩ (i64 (gx:Int))).setCell ⟨L,y,none⟩ (i64 (gx:Int))).cell? ⟨Pb,0,none⟩=some (i64 (x:Int)):=by rw [World.cell?_setCell_far _ _ _ _ ug];exact s0
         have z1:((W2.setCell ⟨L,x,none⟩ (i64 (gx:Int))).setCell ⟨L,y,none⟩ (i64 (gx:Int))).cell? ⟨Pb,1,none⟩=some (i64 (y:Int)):=by rw [World.cell?_setCell_far _ _ _ _ ug];exact s1
         clear T1;go_wp2_with fail
         refine aO (λw'=>w'.cell? ⟨Pb,0,none⟩=some (i64 (x:Int))/\w'.cell? ⟨Pb,1,none⟩=some (i64 (y:Int))) (λw'=>True) (λi=>false) ax (⟨p0,p1⟩) (trivial) (λaD ai=> ?_);refine aJ 0 aD ai ?_;refine aJ 1 aD ai ?_;refine aJ 2 aD ai ?_ (v:= .int .i64 (x:Int));refine aJ 3 aD ai ?_;refine aJ 4 aD ai ?_;refine aJ 5 aD ai ?_ (v:= .int .i64 (y:Int));refine aJ 6 aD ai ?_ (v:=i64 (gx:Int));refine aJ 7 aD ai ?_ (v:=i64 (gx:Int));refine aJ 8 aD ai ?_;refine eI 9 rfl (λKc hK=> ?_);go_simp;refine hK.o _ _ (⟨s0,s1⟩) (trivial) (λaD ai=> ?_);clear hK Kc;try simp only [sS]
         refine aJ 10 aD ai ?_;refine eI 11 rfl (λKc hK=> ?_);go_simp;refine hK.o _ _ (⟨z0,z1⟩) (trivial) (λaD ai=> ?_);clear hK Kc;try simp only [sS]
         refine aI ax ?_ _;clear aD ai
         have LP:Hid (j3 ((W2.setCell ⟨L,x,none⟩ (i64 (gx:Int))).setCell ⟨L,y,none⟩ (i64 (gx:Int))) L (fh g (x,y)) n):=by
          show j3 _ _ _ _;have h5:=(HT.o.set x gx).set y gx;have e5:fh g (x,y)=g_ (g_ g x gx) y gx:=by unfold fh;rw [Jf.o,Jg.o,HM.o]
          rw [e5];exact h5
         have LQ:Hid (Ext V ((W2.setCell ⟨L,x,none⟩ (i64 (gx:Int))).setCell ⟨L,y,none⟩ (i64 (gx:Int)))):=(eR.o.setCell z_.o _).setCell z_.o _;have sD:=vH.o;rw [Jf.o,Jg.o,Dz.o]at sD;have sD:=ah sD;clear p0 p1 l0 l1 s0 s1 z0 z1 vy fx fy nx ny;go_wp2
         exact ⟨⟨i+1,fh g (x,y),true,ae,LP.o,LQ.o.drew.drew,sD.o,rfl,bf⟩,a_⟩
       |false=>
        rcases hw with hw|hw|hw
        .have tt:(gy:Int)<(gx:Int):=ae
         have nx:((gx:Int) !=(gy:Int))=true:=by simp;omega
         have ny:((gy:Int) !=(gy:Int))=false:=aG;have HM:Hid (min gx gy=gy):=by(show _=_;omega)
         have Dz:Hid ((false||(gx !=min gx gy)||(gy !=min gx gy))=true):=by(show _=_;rw [HM.o];simp;omega)
         clear hw;go_wp2_with fail
         refine aO (λw'=>w'.cell? ⟨Pb,0,none⟩=some (i64 (x:Int))/\w'.cell? ⟨Pb,1,none⟩=some (i64 (y:Int))/\w'.cell? ⟨L,x,none⟩=some (i64 (gx:Int))/\w'.cell? ⟨L,y,none⟩=some (i64 (gy:Int))) (λw'=>True) (λi=>false) ax (⟨p0,p1,l0,l1⟩) (trivial) (λaD ai=> ?_);refine aJ 0 aD ai ?_;refine aJ 1 aD ai ?_;refine aJ 2 aD ai ?_ (v:= .int .i64 (x:Int));refine aJ 3 aD ai ?_;refine aJ 4 aD ai ?_ (v:=i64 (gx:Int));refine aJ 5 aD ai ?_;refine aJ 6 aD ai ?_;refine aJ 7 aD ai ?_ (v:= .int .i64 (y:Int));refine aJ 8 aD ai ?_;refine aJ 9 aD ai ?_ (v:=i64 (gy:Int));refine aJ 10 aD ai ?_ (v:=i64 (gy:Int)) (hy:=by rintro w ⟨e0,e1,e2,e3⟩;(go_simp<;>omega));refine aJ 11 aD ai ?_ (v:=i64 (gy:Int));refine aI ax ?_ _;clear aD ai;clear tt;have T1:=HT.o.set x gy;have l0:W2.drew.cell? ⟨L,x,none⟩=some (i64 (gx:Int)):=l0;have fx:W2.frozen? ⟨L,x,none⟩=false:=(HT.o.cell x hx).2;have fy:(W2.setCell ⟨L,x,none⟩ (i64 (gy:Int))).frozen? ⟨L,y,none⟩=false:=(T1.cell y hy).2;have vy:(W2.setCell ⟨L,x,none⟩ (i64 (gy:Int))).cell? ⟨L,y,none⟩=some (i64 ((g_ g x gy y:Nat):Int)):=(T1.cell y hy).1;have s0:(W2.setCell ⟨L,x,none⟩ (i64 (gy:Int))).cell? ⟨Pb,0,none⟩=some (i64 (x:Int)):=by rw [World.cell?_setCell_far _ _ _ _ ug];exact p0
         have s1:(W2.setCell ⟨L,x,none⟩ (i64 (gy:Int))).cell? ⟨Pb,1,none⟩=some (i64 (y:Int)):=by rw [World.cell?_setCell_far _ _ _ _ ug];exact p1
         have z0:((W2.setCell ⟨L,x,none⟩ (i64 (gy:Int))).setCell ⟨L,y,none⟩ (i64 (gy:Int))).cell? ⟨Pb,0,none⟩=some (i64 (x:Int)):=by rw [World.cell?_setCell_far _ _ _ _ ug];exact s0
         have z1:((W2.setCell ⟨L,x,none⟩ (i64 (gy:Int))).setCell ⟨L,y,none⟩ (i64 (gy:Int))).cell? ⟨Pb,1,none⟩=some (i64 (y:Int)):=by rw [World.cell?_setCell_far _ _ _ _ ug];exact s1
         clear T1;go_wp2_with fail
         refine aO (λw'=>w'.cell? ⟨Pb,0,none⟩=some (i64 (x:Int))/\w'.cell? ⟨Pb,1,none⟩=some (i64 (y:Int))) (λw'=>True) (λi=>false) ax (⟨p0,p1⟩) (trivial) (λaD ai=> ?_);refine aJ 0 aD ai ?_;refine aJ 1 aD ai ?_;refine aJ 2 aD ai ?_ (v:= .int .i64 (x:Int));refine aJ 3 aD ai ?_;refine aJ 4 aD ai ?_;refine aJ 5 aD ai ?_ (v:= .int .i64 (y:Int));refine aJ 6 aD ai ?_ (v:=i64 (gy:Int));refine aJ 7 aD ai ?_ (v:=i64 (gy:Int));refine aJ 8 aD ai ?_;refine eI 9 rfl (λKc hK=> ?_);go_simp;refine hK.o _ _ (⟨s0,s1⟩) (trivial) (λaD ai=> ?_);clear hK Kc;try simp only [sS]
         refine aJ 10 aD ai ?_;refine eI 11 rfl (λKc hK=> ?_);go_simp;refine hK.o _ _ (⟨z0,z1⟩) (trivial) (λaD ai=> ?_);clear hK Kc;try simp only [sS]
         refine aI ax ?_ _;clear aD ai
         have LP:Hid (j3 ((W2.setCell ⟨L,x,none⟩ (i64 (gy:Int))).setCell ⟨L,y,none⟩ (i64 (gy:Int))) L (fh g (x,y)) n):=by
          show j3 _ _ _ _;have h5:=(HT.o.set x gy).set y gy;have e5:fh g (x,y)=g_ (g_ g x gy) y gy:=by unfold fh;rw [Jf.o,Jg.o,HM.o]
          rw [e5];exact h5
         have LQ:Hid (Ext V ((W2.setCell ⟨L,x,none⟩ (i64 (gy:Int))).setCell ⟨L,y,none⟩ (i64 (gy:Int)))):=(eR.o.setCell z_.o _).setCell z_.o _;have sD:=vH.o;rw [Jf.o,Jg.o,Dz.o]at sD;have sD:=ah sD;clear p0 p1 l0 l1 s0 s1 z0 z1 vy fx fy nx ny;go_wp2
         exact ⟨⟨i+1,fh g (x,y),true,ae,LP.o,LQ.o.drew.drew,sD.o,rfl,bf⟩,a_⟩
        .have tt: ¬((gy:Int)<(gx:Int)):=ae
         have nx:((gx:Int) !=(gx:Int))=false:=aG;have ny:((gy:Int) !=(gx:Int))=false:=by simp;omega
         have HM:Hid (min gx gy=gx):=by(show _=_;omega)
         have Dz:Hid ((false||(gx !=min gx gy)||(gy !=min gx gy))=false):=by(show _=_;rw [HM.o];simp;omega)
         clear hw;go_wp2_with fail
         refine aO (λw'=>w'.cell? ⟨Pb,0,none⟩=some (i64 (x:Int))/\w'.cell? ⟨Pb,1,none⟩=some (i64 (y:Int))/\w'.cell? ⟨L,x,none⟩=some (i64 (gx:Int))/\w'.cell? ⟨L,y,none⟩=some (i64 (gy:Int))) (λw'=>True) (λi=>false) ax (⟨p0,p1,l0,l1⟩) (trivial) (λaD ai=> ?_);refine aJ 0 aD ai ?_;refine aJ 1 aD ai ?_;refine aJ 2 aD ai ?_ (v:= .int .i64 (x:Int));refine aJ 3 aD ai ?_;refine aJ 4 aD ai ?_ (v:=i64 (gx:Int));refine aJ 5 aD ai ?_;refine aJ 6 aD ai ?_;refine aJ 7 aD ai ?_ (v:= .int .i64 (y:Int));refine aJ 8 aD ai ?_;refine aJ 9 aD ai ?_ (v:=i64 (gy:Int));refine aJ 10 aD ai ?_ (v:=i64 (gx:Int)) (hy:=by rintro w ⟨e0,e1,e2,e3⟩;(go_simp<;>omega));refine aJ 11 aD ai ?_ (v:=i64 (gx:Int));refine aI ax ?_ _;clear aD ai;clear tt;have T1:=HT.o.set x gx;have l0:W2.drew.cell? ⟨L,x,none⟩=some (i64 (gx:Int)):=l0;have fx:W2.frozen? ⟨L,x,none⟩=false:=(HT.o.cell x hx).2;have fy:(W2.setCell ⟨L,x,none⟩ (i64 (gx:Int))).frozen? ⟨L,y,none⟩=false:=(T1.cell y hy).2;have vy:(W2.setCell ⟨L,x,none⟩ (i64 (gx:Int))).cell? ⟨L,y,none⟩=some (i64 ((g_ g x gx y:Nat):Int)):=(T1.cell y hy).1;have s0:(W2.setCell ⟨L,x,none⟩ (i64 (gx:Int))).cell? ⟨Pb,0,none⟩=some (i64 (x:Int)):=by rw [World.cell?_setCell_far _ _ _ _ ug];exact p0
         have s1:(W2.setCell ⟨L,x,none⟩ (i64 (gx:Int))).cell? ⟨Pb,1,none⟩=some (i64 (y:Int)):=by rw [World.cell?_setCell_far _ _ _ _ ug];exact p1
         have z0:((W2.setCell ⟨L,x,none⟩ (i64 (gx:Int))).setCell ⟨L,y,none⟩ (i64 (gx:Int))).cell? ⟨Pb,0,none⟩=some (i64 (x:Int)):=by rw [World.cell?_setCell_far _ _ _ _ ug];exact s0
         have z1:((W2.setCell ⟨L,x,none⟩ (i64 (gx:Int))).setCell ⟨L,y,none⟩ (i64 (gx:Int))).cell? ⟨Pb,1,none⟩=some (i64 (y:Int)):=by rw [World.cell?_setCell_far _ _ _ _ ug];exact s1
         clear T1;go_wp2_with fail
         refine aO (λw'=>w'.cell? ⟨Pb,0,none⟩=some (i64 (x:Int))/\w'.cell? ⟨Pb,1,none⟩=some (i64 (y:Int))) (λw'=>True) (λi=>false) ax (⟨p0,p1⟩) (trivial) (λaD ai=> ?_);refine aJ 0 aD ai ?_;refine aJ 1 aD ai ?_;refine aJ 2 aD ai ?_ (v:= .int .i64 (x:Int));refine aJ 3 aD ai ?_;refine aJ 4 aD ai ?_;refine aJ 5 aD ai ?_ (v:= .int .i64 (y:Int));refine aJ 6 aD ai ?_ (v:=i64 (gx:Int));refine aJ 7 aD ai ?_ (v:=i64 (gx:Int));refine aJ 8 aD ai ?_;refine eI 9 rfl (λKc hK=> ?_);go_simp;refine hK.o _ _ (⟨s0,s1⟩) (trivial) (λaD ai=> ?_);clear hK Kc;try simp only [sS]
         refine aJ 10 aD ai ?_;refine eI 11 rfl (λKc hK=> ?_);go_simp;refine hK.o _ _ (⟨z0,z1⟩) (trivial) (λaD ai=> ?_);clear hK Kc;try simp only [sS]
         refine aI ax ?_ _;clear aD ai
         have LP:Hid (j3 ((W2.setCell ⟨L,x,none⟩ (i64 (gx:Int))).setCell ⟨L,y,none⟩ (i64 (gx:Int))) L (fh g (x,y)) n):=by
          show j3 _ _ _ _;have h5:=(HT.o.set x gx).set y gx;have e5:fh g (x,y)=g_ (g_ g x gx) y gx:=by unfold fh;rw [Jf.o,Jg.o,HM.o]
          rw [e5];exact h5
         have LQ:Hid (Ext V ((W2.setCell ⟨L,x,none⟩ (i64 (gx:Int))).setCell ⟨L,y,none⟩ (i64 (gx:Int)))):=(eR.o.setCell z_.o _).setCell z_.o _;have sD:=vH.o;rw [Jf.o,Jg.o,Dz.o]at sD;have sD:=ah sD;clear p0 p1 l0 l1 s0 s1 z0 z1 vy fx fy nx ny;go_wp2
         exact ⟨⟨i+1,fh g (x,y),false,ae,LP.o,LQ.o.drew.drew,sD.o,rfl,bf⟩,a_⟩
        .have tt: ¬((gy:Int)<(gx:Int)):=ae
         have nx:((gx:Int) !=(gx:Int))=false:=aG;have ny:((gy:Int) !=(gx:Int))=true:=by simp;omega
         have HM:Hid (min gx gy=gx):=by(show _=_;omega)
         have Dz:Hid ((false||(gx !=min gx gy)||(gy !=min gx gy))=true):=by(show _=_;rw [HM.o];simp;omega)
         clear hw;go_wp2_with fail
         refine aO (λw'=>w'.cell? ⟨Pb,0,none⟩=some (i64 (x:Int))/\w'.cell? ⟨Pb,1,none⟩=some (i64 (y:Int))/\w'.cell? ⟨L,x,none⟩=some (i64 (gx:Int))/\w'.cell? ⟨L,y,none⟩=some (i64 (gy:Int))) (λw'=>True) (λi=>false) ax (⟨p0,p1,l0,l1⟩) (trivial) (λaD ai=> ?_);refine aJ 0 aD ai ?_;refine aJ 1 aD ai ?_;refine aJ 2 aD ai ?_ (v:= .int .i64 (x:Int));refine aJ 3 aD ai ?_;refine aJ 4 aD ai ?_ (v:=i64 (gx:Int));refine aJ 5 aD ai ?_;refine aJ 6 aD ai ?_;refine aJ 7 aD ai ?_ (v:= .int .i64 (y:Int));refine aJ 8 aD ai ?_;refine aJ 9 aD ai ?_ (v:=i64 (gy:Int));refine aJ 10 aD ai ?_ (v:=i64 (gx:Int)) (hy:=by rintro w ⟨e0,e1,e2,e3⟩;(go_simp<;>omega));refine aJ 11 aD ai ?_ (v:=i64 (gx:Int));refine aI ax ?_ _;clear aD ai;clear tt;have T1:=HT.o.set x gx;have l0:W2.drew.cell? ⟨L,x,none⟩=some (i64 (gx:Int)):=l0;have fx:W2.frozen? ⟨L,x,none⟩=false:=(HT.o.cell x hx).2;have fy:(W2.setCell ⟨L,x,none⟩ (i64 (gx:Int))).frozen? ⟨L,y,none⟩=false:=(T1.cell y hy).2;have vy:(W2.setCell ⟨L,x,none⟩ (i64 (gx:Int))).cell? ⟨L,y,none⟩=some (i64 ((g_ g x gx y:Nat):Int)):=(T1.cell y hy).1;have s0:(W2.setCell ⟨L,x,none⟩ (i64 (gx:Int))).cell? ⟨Pb,0,none⟩=some (i64 (x:Int)):=by rw [World.cell?_setCell_far _ _ _ _ ug];exact p0
         have s1:(W2.setCell ⟨L,x,none⟩ (i64 (gx:Int))).cell? ⟨Pb,1,none⟩=some (i64 (y:Int)):=by rw [World.cell?_setCell_far _ _ _ _ ug];exact p1
         have z0:((W2.setCell ⟨L,x,none⟩ (i64 (gx:Int))).setCell ⟨L,y,none⟩ (i64 (gx:Int))).cell? ⟨Pb,0,none⟩=some (i64 (x:Int)):=by rw [World.cell?_setCell_far _ _ _ _ ug];exact s0
         have z1:((W2.setCell ⟨L,x,none⟩ (i64 (gx:Int))).setCell ⟨L,y,none⟩ (i64 (gx:Int))).cell? ⟨Pb,1,none⟩=some (i64 (y:Int)):=by rw [World.cell?_setCell_far _ _ _ _ ug];exact s1
         clear T1;go_wp2_with fail
         refine aO (λw'=>w'.cell? ⟨Pb,0,none⟩=some (i64 (x:Int))/\w'.cell? ⟨Pb,1,none⟩=some (i64 (y:Int))) (λw'=>True) (λi=>false) ax (⟨p0,p1⟩) (trivial) (λaD ai=> ?_);refine aJ 0 aD ai ?_;refine aJ 1 aD ai ?_;refine aJ 2 aD ai ?_ (v:= .int .i64 (x:Int));refine aJ 3 aD ai ?_;refine aJ 4 aD ai ?_;refine aJ 5 aD ai ?_ (v:= .int .i64 (y:Int));refine aJ 6 aD ai ?_ (v:=i64 (gx:Int));refine aJ 7 aD ai ?_ (v:=i64 (gx:Int));refine aJ 8 aD ai ?_;refine eI 9 rfl (λKc hK=> ?_);go_simp;refine hK.o _ _ (⟨s0,s1⟩) (trivial) (λaD ai=> ?_);clear hK Kc;try simp only [sS]
         refine aJ 10 aD ai ?_;refine eI 11 rfl (λKc hK=> ?_);go_simp;refine hK.o _ _ (⟨z0,z1⟩) (trivial) (λaD ai=> ?_);clear hK Kc;try simp only [sS]
         refine aI ax ?_ _;clear aD ai
         have LP:Hid (j3 ((W2.setCell ⟨L,x,none⟩ (i64 (gx:Int))).setCell ⟨L,y,none⟩ (i64 (gx:Int))) L (fh g (x,y)) n):=by
          show j3 _ _ _ _;have h5:=(HT.o.set x gx).set y gx;have e5:fh g (x,y)=g_ (g_ g x gx) y gx:=by unfold fh;rw [Jf.o,Jg.o,HM.o]
          rw [e5];exact h5
         have LQ:Hid (Ext V ((W2.setCell ⟨L,x,none⟩ (i64 (gx:Int))).setCell ⟨L,y,none⟩ (i64 (gx:Int)))):=(eR.o.setCell z_.o _).setCell z_.o _;have sD:=vH.o;rw [Jf.o,Jg.o,Dz.o]at sD;have sD:=ah sD;clear p0 p1 l0 l1 s0 s1 z0 z1 vy fx fy nx ny;go_wp2
         exact ⟨⟨i+1,fh g (x,y),true,ae,LP.o,LQ.o.drew.drew,sD.o,rfl,bf⟩,a_⟩
      .obtain rfl:i=E.length:=ae
       have hr:=HG.o;have HR:=ah (And.intro hT (And.intro hX hI));clear hT hX hI;go_wp2_with fail
       go_roundg (gk-1)
       case measure=>omega
       case rel=>
        refine ⟨g,ag,λe=> ?_,HR.o.1,HR.o.2.1,HR.o.2.2.least,λe=> ?_,rfl⟩
        .have:=HR.o.2.2.yes e;omega
        .have:=HR.o.2.2.no e;rw [List.take_length]at this;exact this
