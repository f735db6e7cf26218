/- Texts of the proof. -/
import Derived.Test.YtkpngkdgphojlaaGreatCc8
set_option linter.all false
namespace Go.Proofs.YtkpngkdgphojlaaGreat
open Go.RowKit
def d_ (E:List (Nat×Nat)):List (List Value):=E.map fun p=> [i64 ((p.1:Nat):Int),i64 ((p.2:Nat):Int)]
theorem dY (E:List (Nat×Nat)):(d_ E).length=E.length:=by simp [d_]
theorem qW {w:World} {a:Option Addr} {c:Nat} {E:List (Nat×Nat)} (h:bP w 2 a c (d_ E)) (i:Nat) (hi:i<E.length): ∃b o,a=some ⟨b,o,none⟩∧w.cell? ⟨b,o+i*2,none⟩=some (i64 ((E[i].1:Nat):Int))∧w.cell? ⟨b,o+i*2+1,none⟩=some (i64 ((E[i].2:Nat):Int)):=by
 obtain ⟨b,o,ha,hc⟩:=h.cell i (by rw [dY];exact hi);have e:(d_ E)[i]'(by rw [dY];exact hi)= [i64 ((E[i].1:Nat):Int),i64 ((E[i].2:Nat):Int)]:=by simp [d_]
 simp only [e]at hc;exact ⟨b,o,ha,hc 0 (by simp),hc 1 (by simp)⟩
set_option maxHeartbeats 4000000 in
set_option maxRecDepth 100000 in
theorem qX (V:World) (n:Nat) (a:Option Addr) (c:Nat) (E:List (Nat×Nat)) (hn:n≤1000000) (hE:E.length≤1000000) (hP:bP V 2 a c (d_ E)) (hb: ∀p∈E,p.1<n∧p.2<n):
 Calls Tryz.prog 105 #[.int .i64 (n:Int),.slice a E.length c] V fun e w'=> ∃b f,e= .returned (.slice (some ⟨b,0,none⟩) n n)∧iP w' b f n∧Ext V w'∧V.heap.size≤b∧iZ n E f∧ ∀p∈E,f p.1=f p.2:=by
 have hle:=hP.le;have di:=hP.cap
 rw [dY]at hle;have HP:=ae hP;have kr:=ae hb
 clear hP hb;go_enter Tryz.func105,Tryz.ntmps105
 go_wp2_with (at_make;refine dG _ rfl _ _ 22 rfl 3 (.int .i64 0) 8 Tryz.underlying22 Tryz.info_int rfl _ _ n rfl rfl rfl rfl (by omega) (by omega) ?_;intro w1 eE hx1 hz1)
 obtain ⟨L,hL⟩: ∃L,L=V.heap.size:=⟨_,rfl⟩;rw [←hL]at eE⊢;have uu:Hid (V.heap.size≤L):=by show _≤_;omega
 have rL:=ae (iP.zero eE.out);have eK:=ae hx1
 clear eE hx1 hz1 hL;go_loopw [6] (fun ii wr=> ∃k:Nat,k≤n∧iP wr L (fun b=>if b<k then b else 0) n∧Ext V wr∧ii= .int .i64 k) (fun ii _=>n-(intOf ii).toNat)
 case atStart=>exact ⟨0,Nat.zero_le _,rL.out,eK.out,rfl⟩
 case round=>
  obtain ⟨k,hk,hT,hX,rfl⟩:=hrel;clear rL eK;by_cases hlt:k<n
  ·obtain ⟨c0,f0⟩:=hT.cell k hlt
   have ku:=ae hT.next;have dC:=ae (hX.setCell (p:=⟨L,k,none⟩) uu.out (i64 (k:Int)))
   have b0:(0:Int)≤(k:Int):=by omega
   have b1:(k:Int)<(n:Int):=by omega
   clear hT hX;go_wp2_with fail
   exact ⟨⟨k+1,by omega,ku.out,dC.out,by go_num⟩,by simp only [intOf];omega⟩
  ·obtain rfl:n=k:=by omega
   have ku:=ae hT.full;have dC:=ae hX
   clear hT hX;go_wp2_with fail
   go_loopg [7] (sumTo (fun b=>b) n+1) (fun g aa wl=> ∃(f:Nat→Nat) (ag:Bool),(ag=true→sumTo f n+1≤g)∧iP wl L f n∧Ext V wl∧iZ n E f∧(ag=false→ ∀p∈E,f p.1=f p.2)∧aa= .bool ag)
   case atStart=>exact ⟨fun b=>b,true,fun _=>Nat.le_refl _,ku.out,dC.out,iZ.start n E,(fun e=>by cases e),rfl⟩
   case round=>
    obtain ⟨f,ag,hg,hT,hX,SS,hno,rfl⟩:=hrel;clear ku dC;cases ag with
    |false=>
     have HR:=ae (And.intro hT (And.intro hX (And.intro SS (hno rfl))));clear hT hX SS hno hg;go_wp2_with fail
     go_ret;exact ⟨L,f,rfl,HR.out.1,HR.out.2.1,uu.out,HR.out.2.2.1,HR.out.2.2.2⟩
    |true=>
     have hg1:=hg rfl;have ku:=ae hT;have dC:=ae hX;have KU:=ae SS
     have HG:=ae hg1;clear hT hX SS hno hg hg1;go_wp2_with fail
     go_loopw [7,25] (fun aa ii wl=> ∃(i:Nat) (g:Nat→Nat) (ag:Bool),i≤E.length∧iP wl L g n∧Ext V wl∧qV n E f i g ag∧aa= .bool ag∧ii= .int .i64 i) (fun _ ii _=>E.length-(intOf ii).toNat)
     case atStart=>exact ⟨0,f,false,Nat.zero_le _,ku.out,dC.out,qV.start KU.out,rfl,rfl⟩
     case round=>
      obtain ⟨i,g,ag,hi,hT,hX,hI,rfl,rfl⟩:=hrel;clear ku dC;by_cases hlt:i<E.length
      ·obtain ⟨b,o,ha,r0,r1⟩:=qW ((HP.out.ext hX)) i hlt
       obtain ⟨hx,hy⟩:=kr.out E[i] (List.getElem_mem hlt);have qU:=ae (hI.step hlt hx hy);obtain ⟨⟨x,y⟩,sU⟩: ∃p,p=E[i]:=⟨_,rfl⟩;rw [←sU]at r0 r1 hx hy qU;simp only at r0 r1 hx hy;obtain ⟨gx,hgx⟩: ∃gx,gx=g x:=⟨_,rfl⟩;obtain ⟨gy,Xx⟩: ∃gy,gy=g y:=⟨_,rfl⟩;have DB:Hid (g x=gx):=hgx.symm;have DC:Hid (g y=gy):=Xx.symm;have qU:Hid (qV n E f (i+1) (dT g (x,y)) (ag||(g x !=min (g x) (g y))||(g y !=min (g x) (g y)))):=qU.out;have xQ:=ae hT;have wR:=ae hX;have j3:=ae ha
       have fM:(0:Int)≤(i:Int):=by omega
       have fH:(i:Int)<(E.length:Int):=by omega
       have bx0:(0:Int)≤(x:Int):=by omega
       have bx1:(x:Int)<(n:Int):=by omega
       have by0:(0:Int)≤(y:Int):=by omega
       have by1:(y:Int)<(n:Int):=by omega
       clear hT hX hI sU hgx Xx ha;rw [j3.out];go_upto_region 12 with fail
       obtain ⟨W2,hW2,x2,Z2,A2⟩:=aB wr 166 [i64 (x:Int),i64 (y:Int)];rw [show wr.alloc (.cells #[i64 (x:Int),i64 (y:Int)] 166)=W2 from hW2.symm];clear hW2;obtain ⟨Pb,Xy⟩: ∃Pb,Pb=wr.heap.size:=⟨_,rfl⟩;rw [←Xy]at A2⊢;have qh:L≠Pb:=by have:=xQ.out.lt;omega
       have HT:=ae (xQ.out.ext x2);have dC:=ae (wR.out.trans x2)
       have p0:W2.cell? ⟨Pb,0,none⟩=some (i64 (x:Int)):=(A2.cell 0).trans rfl;have p1:W2.cell? ⟨Pb,1,none⟩=some (i64 (y:Int)):=(A2.cell 1).trans rfl;have l0:W2.cell? ⟨L,x,none⟩=some (i64 (gx:Int)):=by rw [←DB.out];exact (HT.out.cell x hx).1
       have l1:W2.cell? ⟨L,y,none⟩=some (i64 (gy:Int)):=by rw [←DC.out];exact (HT.out.cell y hy).1
       clear Xy Z2 A2 r0 r1 x2 xQ wR;have hw:gy<gx∨gy=gx∨gx<gy:=by omega
       cases ag with
       |true=>
        rcases hw with hw|hw|hw
        ·have tt:(gy:Int)<(gx:Int):=by omega
         have nx:((gx:Int) !=(gy:Int))=true:=by simp;omega
         have ny:((gy:Int) !=(gy:Int))=false:=by simp
         have HM:Hid (min gx gy=gy):=by(show _=_;omega)
         have F7:Hid ((true||(gx !=min gx gy)||(gy !=min gx gy))=true):=by(show _=_;rw [HM.out];simp)
         clear hw;go_wp2_with fail
         refine ay (fun w'=>w'.cell? ⟨Pb,0,none⟩=some (i64 (x:Int))∧w'.cell? ⟨Pb,1,none⟩=some (i64 (y:Int))∧w'.cell? ⟨L,x,none⟩=some (i64 (gx:Int))∧w'.cell? ⟨L,y,none⟩=some (i64 (gy:Int))) (fun w'=>True) (fun i=>false) (by kernel_rfl) (⟨p0,p1,l0,l1⟩) (trivial) (fun ar ah=> ?_);refine av 0 (.slice (some ⟨L,0,none⟩) n n) rfl ar ah ?_;simp only [sS];refine av 1 (.pointer (some ⟨Pb,0,none⟩)) rfl ar ah ?_;simp only [sS];refine av 2 (.int .i64 (x:Int)) rfl ar ah ?_;simp only [sS];refine av 3 (.pointer (some ⟨L,x,none⟩)) rfl ar ah ?_;simp only [sS];refine av 4 (i64 (gx:Int)) rfl ar ah ?_;simp only [sS];refine av 5 (.slice (some ⟨L,0,none⟩) n n) rfl ar ah ?_;simp only [sS];refine av 6 (.pointer (some ⟨Pb,1,none⟩)) rfl ar ah ?_;simp only [sS];refine av 7 (.int .i64 (y:Int)) rfl ar ah ?_;simp only [sS];refine av 8 (.pointer (some ⟨L,y,none⟩)) rfl ar ah ?_;simp only [sS];refine av 9 (i64 (gy:Int)) rfl ar ah ?_;simp only [sS];refine av 10 (i64 (gy:Int)) rfl ar ah ?_ (by rintro w ⟨e0,e1,e2,e3⟩;(go_simp<;>omega));simp only [sS];refine av 11 (i64 (gy:Int)) rfl ar ah ?_;simp only [sS];refine ax (by kernel_rfl) ?_ _;clear ar ah;clear tt;have T1:=HT.out.set x gy;have l0:W2.drew.cell? ⟨L,x,none⟩=some (i64 (gx:Int)):=l0;have fx:W2.frozen? ⟨L,x,none⟩=false:=(HT.out.cell x hx).2;have fy:(W2.setCell ⟨L,x,none⟩ (i64 (gy:Int))).frozen? ⟨L,y,none⟩=false:=(T1.cell y hy).2;have vy:(W2.setCell ⟨L,x,none⟩ (i64 (gy:Int))).cell? ⟨L,y,none⟩=some (i64 ((fG g x gy y:Nat):Int)):=(T1.cell y hy).1;have s0:(W2.setCell ⟨L,x,none⟩ (i64 (gy:Int))).cell? ⟨Pb,0,none⟩=some (i64 (x:Int)):=by rw [World.cell?_setCell_far _ _ _ _ qh];exact p0
         have s1:(W2.setCell ⟨L,x,none⟩ (i64 (gy:Int))).cell? ⟨Pb,1,none⟩=some (i64 (y:Int)):=by rw [World.cell?_setCell_far _ _ _ _ qh];exact p1
         have z0:((W2.setCell ⟨L,x,none⟩ (i64 (gy:Int))).setCell ⟨L,y,none⟩ (i64 (gy:Int))).cell? ⟨Pb,0,none⟩=some (i64 (x:Int)):=by rw [World.cell?_setCell_far _ _ _ _ qh];exact s0
         have z1:((W2.setCell ⟨L,x,none⟩ (i64 (gy:Int))).setCell ⟨L,y,none⟩ (i64 (gy:Int))).cell? ⟨Pb,1,none⟩=some (i64 (y:Int)):=by rw [World.cell?_setCell_far _ _ _ _ qh];exact s1
         clear T1;go_wp2_with fail
         refine ay (fun w'=>w'.cell? ⟨Pb,0,none⟩=some (i64 (x:Int))∧w'.cell? ⟨Pb,1,none⟩=some (i64 (y:Int))) (fun w'=>True) (fun i=>false) (by kernel_rfl) (⟨p0,p1⟩) (trivial) (fun ar ah=> ?_);refine av 0 (.slice (some ⟨L,0,none⟩) n n) rfl ar ah ?_;simp only [sS];refine av 1 (.pointer (some ⟨Pb,0,none⟩)) rfl ar ah ?_;simp only [sS];refine av 2 (.int .i64 (x:Int)) rfl ar ah ?_;simp only [sS];refine av 3 (.slice (some ⟨L,0,none⟩) n n) rfl ar ah ?_;simp only [sS];refine av 4 (.pointer (some ⟨Pb,1,none⟩)) rfl ar ah ?_;simp only [sS];refine av 5 (.int .i64 (y:Int)) rfl ar ah ?_;simp only [sS];refine av 6 (i64 (gy:Int)) rfl ar ah ?_;simp only [sS];refine av 7 (i64 (gy:Int)) rfl ar ah ?_;simp only [sS];refine av 8 (.pointer (some ⟨L,x,none⟩)) rfl ar ah ?_;simp only [sS];refine cG 9 rfl (fun Kc hK=> ?_);go_simp;refine hK.out _ _ (⟨s0,s1⟩) (trivial) (fun ar ah=> ?_);clear hK Kc;try simp only [sS]
         refine av 10 (.pointer (some ⟨L,y,none⟩)) rfl ar ah ?_;simp only [sS];refine cG 11 rfl (fun Kc hK=> ?_);go_simp;refine hK.out _ _ (⟨z0,z1⟩) (trivial) (fun ar ah=> ?_);clear hK Kc;try simp only [sS]
         refine ax (by kernel_rfl) ?_ _;clear ar ah
         have F8:Hid (iP ((W2.setCell ⟨L,x,none⟩ (i64 (gy:Int))).setCell ⟨L,y,none⟩ (i64 (gy:Int))) L (dT g (x,y)) n):=by
          show iP _ _ _ _;have h5:=(HT.out.set x gy).set y gy;have e5:dT g (x,y)=fG (fG g x gy) y gy:=by unfold dT;rw [DB.out,DC.out,HM.out]
          rw [e5];exact h5
         have F9:Hid (Ext V ((W2.setCell ⟨L,x,none⟩ (i64 (gy:Int))).setCell ⟨L,y,none⟩ (i64 (gy:Int)))):=(dC.out.setCell uu.out _).setCell uu.out _;have o7:=qU.out;rw [DB.out,DC.out,F7.out]at o7;have o7:=ae o7;clear p0 p1 l0 l1 s0 s1 z0 z1 vy fx fy nx ny;go_wp2_with fail
         exact ⟨⟨i+1,dT g (x,y),true,by omega,F8.out,F9.out.drew.drew,o7.out,rfl,by go_num⟩,by simp only [intOf];omega⟩
        ·have tt: ¬((gy:Int)<(gx:Int)):=by omega
         have nx:((gx:Int) !=(gx:Int))=false:=by simp
         have ny:((gy:Int) !=(gx:Int))=false:=by simp;omega
         have HM:Hid (min gx gy=gx):=by(show _=_;omega)
         have F7:Hid ((true||(gx !=min gx gy)||(gy !=min gx gy))=true):=by(show _=_;rw [HM.out];simp)
         clear hw;go_wp2_with fail
         refine ay (fun w'=>w'.cell? ⟨Pb,0,none⟩=some (i64 (x:Int))∧w'.cell? ⟨Pb,1,none⟩=some (i64 (y:Int))∧w'.cell? ⟨L,x,none⟩=some (i64 (gx:Int))∧w'.cell? ⟨L,y,none⟩=some (i64 (gy:Int))) (fun w'=>True) (fun i=>false) (by kernel_rfl) (⟨p0,p1,l0,l1⟩) (trivial) (fun ar ah=> ?_);refine av 0 (.slice (some ⟨L,0,none⟩) n n) rfl ar ah ?_;simp only [sS];refine av 1 (.pointer (some ⟨Pb,0,none⟩)) rfl ar ah ?_;simp only [sS];refine av 2 (.int .i64 (x:Int)) rfl ar ah ?_;simp only [sS];refine av 3 (.pointer (some ⟨L,x,none⟩)) rfl ar ah ?_;simp only [sS];refine av 4 (i64 (gx:Int)) rfl ar ah ?_;simp only [sS];refine av 5 (.slice (some ⟨L,0,none⟩) n n) rfl ar ah ?_;simp only [sS];refine av 6 (.pointer (some ⟨Pb,1,none⟩)) rfl ar ah ?_;simp only [sS];refine av 7 (.int .i64 (y:Int)) rfl ar ah ?_;simp only [sS];refine av 8 (.pointer (some ⟨L,y,none⟩)) rfl ar ah ?_;simp only [sS];refine av 9 (i64 (gy:Int)) rfl ar ah ?_;simp only [sS];refine av 10 (i64 (gx:Int)) rfl ar ah ?_ (by rintro w ⟨e0,e1,e2,e3⟩;(go_simp<;>omega));simp only [sS];refine av 11 (i64 (gx:Int)) rfl ar ah ?_;simp only [sS];refine ax (by kernel_rfl) ?_ _;clear ar ah;clear tt;have T1:=HT.out.set x gx;have l0:W2.drew.cell? ⟨L,x,none⟩=some (i64 (gx:Int)):=l0;have fx:W2.frozen? ⟨L,x,none⟩=false:=(HT.out.cell x hx).2;have fy:(W2.setCell ⟨L,x,none⟩ (i64 (gx:Int))).frozen? ⟨L,y,none⟩=false:=(T1.cell y hy).2;have vy:(W2.setCell ⟨L,x,none⟩ (i64 (gx:Int))).cell? ⟨L,y,none⟩=some (i64 ((fG g x gx y:Nat):Int)):=(T1.cell y hy).1;have s0:(W2.setCell ⟨L,x,none⟩ (i64 (gx:Int))).cell? ⟨Pb,0,none⟩=some (i64 (x:Int)):=by rw [World.cell?_setCell_far _ _ _ _ qh];exact p0
         have s1:(W2.setCell ⟨L,x,none⟩ (i64 (gx:Int))).cell? ⟨Pb,1,none⟩=some (i64 (y:Int)):=by rw [World.cell?_setCell_far _ _ _ _ qh];exact p1
         have z0:((W2.setCell ⟨L,x,none⟩ (i64 (gx:Int))).setCell ⟨L,y,none⟩ (i64 (gx:Int))).cell? ⟨Pb,0,none⟩=some (i64 (x:Int)):=by rw [World.cell?_setCell_far _ _ _ _ qh];exact s0
         have z1:((W2.setCell ⟨L,x,none⟩ (i64 (gx:Int))).setCell ⟨L,y,none⟩ (i64 (gx:Int))).cell? ⟨Pb,1,none⟩=some (i64 (y:Int)):=by rw [World.cell?_setCell_far _ _ _ _ qh];exact s1
         clear T1;go_wp2_with fail
         refine ay (fun w'=>w'.cell? ⟨Pb,0,none⟩=some (i64 (x:Int))∧w'.cell? ⟨Pb,1,none⟩=some (i64 (y:Int))) (fun w'=>True) (fun i=>false) (by kernel_rfl) (⟨p0,p1⟩) (trivial) (fun ar ah=> ?_);refine av 0 (.slice (some ⟨L,0,none⟩) n n) rfl ar ah ?_;simp only [sS];refine av 1 (.pointer (some ⟨Pb,0,none⟩)) rfl ar ah ?_;simp only [sS];refine av 2 (.int .i64 (x:Int)) rfl ar ah ?_;simp only [sS];refine av 3 (.slice (some ⟨L,0,none⟩) n n) rfl ar ah ?_;simp only [sS];refine av 4 (.pointer (some ⟨Pb,1,none⟩)) rfl ar ah ?_;simp only [sS];refine av 5 (.int .i64 (y:Int)) rfl ar ah ?_;simp only [sS];refine av 6 (i64 (gx:Int)) rfl ar ah ?_;simp only [sS];refine av 7 (i64 (gx:Int)) rfl ar ah ?_;simp only [sS];refine av 8 (.pointer (some ⟨L,x,none⟩)) rfl ar ah ?_;simp only [sS];refine cG 9 rfl (fun Kc hK=> ?_);go_simp;refine hK.out _ _ (⟨s0,s1⟩) (trivial) (fun ar ah=> ?_);clear hK Kc;try simp only [sS]
         refine av 10 (.pointer (some ⟨L,y,none⟩)) rfl ar ah ?_;simp only [sS];refine cG 11 rfl (fun Kc hK=> ?_);go_simp;refine hK.out _ _ (⟨z0,z1⟩) (trivial) (fun ar ah=> ?_);clear hK Kc;try simp only [sS]
         refine ax (by kernel_rfl) ?_ _;clear ar ah
         have F8:Hid (iP ((W2.setCell ⟨L,x,none⟩ (i64 (gx:Int))).setCell ⟨L,y,none⟩ (i64 (gx:Int))) L (dT g (x,y)) n):=by
          show iP _ _ _ _;have h5:=(HT.out.set x gx).set y gx;have e5:dT g (x,y)=fG (fG g x gx) y gx:=by unfold dT;rw [DB.out,DC.out,HM.out]
          rw [e5];exact h5
         have F9:Hid (Ext V ((W2.setCell ⟨L,x,none⟩ (i64 (gx:Int))).setCell ⟨L,y,none⟩ (i64 (gx:Int)))):=(dC.out.setCell uu.out _).setCell uu.out _;have o7:=qU.out;rw [DB.out,DC.out,F7.out]at o7;have o7:=ae o7;clear p0 p1 l0 l1 s0 s1 z0 z1 vy fx fy nx ny;go_wp2_with fail
         exact ⟨⟨i+1,dT g (x,y),true,by omega,F8.out,F9.out.drew.drew,o7.out,rfl,by go_num⟩,by simp only [intOf];omega⟩
        ·have tt: ¬((gy:Int)<(gx:Int)):=by omega
         have nx:((gx:Int) !=(gx:Int))=false:=by simp
         have ny:((gy:Int) !=(gx:Int))=true:=by simp;omega
         have HM:Hid (min gx gy=gx):=by(show _=_;omega)
         have F7:Hid ((true||(gx !=min gx gy)||(gy !=min gx gy))=true):=by(show _=_;rw [HM.out];simp)
         clear hw;go_wp2_with fail
         refine ay (fun w'=>w'.cell? ⟨Pb,0,none⟩=some (i64 (x:Int))∧w'.cell? ⟨Pb,1,none⟩=some (i64 (y:Int))∧w'.cell? ⟨L,x,none⟩=some (i64 (gx:Int))∧w'.cell? ⟨L,y,none⟩=some (i64 (gy:Int))) (fun w'=>True) (fun i=>false) (by kernel_rfl) (⟨p0,p1,l0,l1⟩) (trivial) (fun ar ah=> ?_);refine av 0 (.slice (some ⟨L,0,none⟩) n n) rfl ar ah ?_;simp only [sS];refine av 1 (.pointer (some ⟨Pb,0,none⟩)) rfl ar ah ?_;simp only [sS];refine av 2 (.int .i64 (x:Int)) rfl ar ah ?_;simp only [sS];refine av 3 (.pointer (some ⟨L,x,none⟩)) rfl ar ah ?_;simp only [sS];refine av 4 (i64 (gx:Int)) rfl ar ah ?_;simp only [sS];refine av 5 (.slice (some ⟨L,0,none⟩) n n) rfl ar ah ?_;simp only [sS];refine av 6 (.pointer (some ⟨Pb,1,none⟩)) rfl ar ah ?_;simp only [sS];refine av 7 (.int .i64 (y:Int)) rfl ar ah ?_;simp only [sS];refine av 8 (.pointer (some ⟨L,y,none⟩)) rfl ar ah ?_;simp only [sS];refine av 9 (i64 (gy:Int)) rfl ar ah ?_;simp only [sS];refine av 10 (i64 (gx:Int)) rfl ar ah ?_ (by rintro w ⟨e0,e1,e2,e3⟩;(go_simp<;>omega));simp only [sS];refine av 11 (i64 (gx:Int)) rfl ar ah ?_;simp only [sS];refine ax (by kernel_rfl) ?_ _;clear ar ah;clear tt;have T1:=HT.out.set x gx;have l0:W2.drew.cell? ⟨L,x,none⟩=some (i64 (gx:Int)):=l0;have fx:W2.frozen? ⟨L,x,none⟩=false:=(HT.out.cell x hx).2;have fy:(W2.setCell ⟨L,x,none⟩ (i64 (gx:Int))).frozen? ⟨L,y,none⟩=false:=(T1.cell y hy).2;have vy:(W2.setCell ⟨L,x,none⟩ (i64 (gx:Int))).cell? ⟨L,y,none⟩=some (i64 ((fG g x gx y:Nat):Int)):=(T1.cell y hy).1;have s0:(W2.setCell ⟨L,x,none⟩ (i64 (gx:Int))).cell? ⟨Pb,0,none⟩=some (i64 (x:Int)):=by rw [World.cell?_setCell_far _ _ _ _ qh];exact p0
         have s1:(W2.setCell ⟨L,x,none⟩ (i64 (gx:Int))).cell? ⟨Pb,1,none⟩=some (i64 (y:Int)):=by rw [World.cell?_setCell_far _ _ _ _ qh];exact p1
         have z0:((W2.setCell ⟨L,x,none⟩ (i64 (gx:Int))).setCell ⟨L,y,none⟩ (i64 (gx:Int))).cell? ⟨Pb,0,none⟩=some (i64 (x:Int)):=by rw [World.cell?_setCell_far _ _ _ _ qh];exact s0
         have z1:((W2.setCell ⟨L,x,none⟩ (i64 (gx:Int))).setCell ⟨L,y,none⟩ (i64 (gx:Int))).cell? ⟨Pb,1,none⟩=some (i64 (y:Int)):=by rw [World.cell?_setCell_far _ _ _ _ qh];exact s1
         clear T1;go_wp2_with fail
         refine ay (fun w'=>w'.cell? ⟨Pb,0,none⟩=some (i64 (x:Int))∧w'.cell? ⟨Pb,1,none⟩=some (i64 (y:Int))) (fun w'=>True) (fun i=>false) (by kernel_rfl) (⟨p0,p1⟩) (trivial) (fun ar ah=> ?_);refine av 0 (.slice (some ⟨L,0,none⟩) n n) rfl ar ah ?_;simp only [sS];refine av 1 (.pointer (some ⟨Pb,0,none⟩)) rfl ar ah ?_;simp only [sS];refine av 2 (.int .i64 (x:Int)) rfl ar ah ?_;simp only [sS];refine av 3 (.slice (some ⟨L,0,none⟩) n n) rfl ar ah ?_;simp only [sS];refine av 4 (.pointer (some ⟨Pb,1,none⟩)) rfl ar ah ?_;simp only [sS];refine av 5 (.int .i64 (y:Int)) rfl ar ah ?_;simp only [sS];refine av 6 (i64 (gx:Int)) rfl ar ah ?_;simp only [sS];refine av 7 (i64 (gx:Int)) rfl ar ah ?_;simp only [sS];refine av 8 (.pointer (some ⟨L,x,none⟩)) rfl ar ah ?_;simp only [sS];refine cG 9 rfl (fun Kc hK=> ?_);go_simp;refine hK.out _ _ (⟨s0,s1⟩) (trivial) (fun ar ah=> ?_);clear hK Kc;try simp only [sS]
         refine av 10 (.pointer (some ⟨L,y,none⟩)) rfl ar ah ?_;simp only [sS];refine cG 11 rfl (fun Kc hK=> ?_);go_simp;refine hK.out _ _ (⟨z0,z1⟩) (trivial) (fun ar ah=> ?_);clear hK Kc;try simp only [sS]
         refine ax (by kernel_rfl) ?_ _;clear ar ah
         have F8:Hid (iP ((W2.setCell ⟨L,x,none⟩ (i64 (gx:Int))).setCell ⟨L,y,none⟩ (i64 (gx:Int))) L (dT g (x,y)) n):=by
          show iP _ _ _ _;have h5:=(HT.out.set x gx).set y gx;have e5:dT g (x,y)=fG (fG g x gx) y gx:=by unfold dT;rw [DB.out,DC.out,HM.out]
          rw [e5];exact h5
         have F9:Hid (Ext V ((W2.setCell ⟨L,x,none⟩ (i64 (gx:Int))).setCell ⟨L,y,none⟩ (i64 (gx:Int)))):=(dC.out.setCell uu.out _).setCell uu.out _;have o7:=qU.out;rw [DB.out,DC.out,F7.out]at o7;have o7:=ae o7;clear p0 p1 l0 l1 s0 s1 z0 z1 vy fx fy nx ny;go_wp2_with fail
         exact ⟨⟨i+1,dT g (x,y),true,by omega,F8.out,F9.out.drew.drew,o7.out,rfl,by go_num⟩,by simp only [intOf];omega⟩
       |false=>
        rcases hw with hw|hw|hw
        ·have tt:(gy:Int)<(gx:Int):=by omega
         have nx:((gx:Int) !=(gy:Int))=true:=by simp;omega
         have ny:((gy:Int) !=(gy:Int))=false:=by simp
         have HM:Hid (min gx gy=gy):=by(show _=_;omega)
         have F7:Hid ((false||(gx !=min gx gy)||(gy !=min gx gy))=true):=by(show _=_;rw [HM.out];simp;omega)
         clear hw;go_wp2_with fail
         refine ay (fun w'=>w'.cell? ⟨Pb,0,none⟩=some (i64 (x:Int))∧w'.cell? ⟨Pb,1,none⟩=some (i64 (y:Int))∧w'.cell? ⟨L,x,none⟩=some (i64 (gx:Int))∧w'.cell? ⟨L,y,none⟩=some (i64 (gy:Int))) (fun w'=>True) (fun i=>false) (by kernel_rfl) (⟨p0,p1,l0,l1⟩) (trivial) (fun ar ah=> ?_);refine av 0 (.slice (some ⟨L,0,none⟩) n n) rfl ar ah ?_;simp only [sS];refine av 1 (.pointer (some ⟨Pb,0,none⟩)) rfl ar ah ?_;simp only [sS];refine av 2 (.int .i64 (x:Int)) rfl ar ah ?_;simp only [sS];refine av 3 (.pointer (some ⟨L,x,none⟩)) rfl ar ah ?_;simp only [sS];refine av 4 (i64 (gx:Int)) rfl ar ah ?_;simp only [sS];refine av 5 (.slice (some ⟨L,0,none⟩) n n) rfl ar ah ?_;simp only [sS];refine av 6 (.pointer (some ⟨Pb,1,none⟩)) rfl ar ah ?_;simp only [sS];refine av 7 (.int .i64 (y:Int)) rfl ar ah ?_;simp only [sS];refine av 8 (.pointer (some ⟨L,y,none⟩)) rfl ar ah ?_;simp only [sS];refine av 9 (i64 (gy:Int)) rfl ar ah ?_;simp only [sS];refine av 10 (i64 (gy:Int)) rfl ar ah ?_ (by rintro w ⟨e0,e1,e2,e3⟩;(go_simp<;>omega));simp only [sS];refine av 11 (i64 (gy:Int)) rfl ar ah ?_;simp only [sS];refine ax (by kernel_rfl) ?_ _;clear ar ah;clear tt;have T1:=HT.out.set x gy;have l0:W2.drew.cell? ⟨L,x,none⟩=some (i64 (gx:Int)):=l0;have fx:W2.frozen? ⟨L,x,none⟩=false:=(HT.out.cell x hx).2;have fy:(W2.setCell ⟨L,x,none⟩ (i64 (gy:Int))).frozen? ⟨L,y,none⟩=false:=(T1.cell y hy).2;have vy:(W2.setCell ⟨L,x,none⟩ (i64 (gy:Int))).cell? ⟨L,y,none⟩=some (i64 ((fG g x gy y:Nat):Int)):=(T1.cell y hy).1;have s0:(W2.setCell ⟨L,x,none⟩ (i64 (gy:Int))).cell? ⟨Pb,0,none⟩=some (i64 (x:Int)):=by rw [World.cell?_setCell_far _ _ _ _ qh];exact p0
         have s1:(W2.setCell ⟨L,x,none⟩ (i64 (gy:Int))).cell? ⟨Pb,1,none⟩=some (i64 (y:Int)):=by rw [World.cell?_setCell_far _ _ _ _ qh];exact p1
         have z0:((W2.setCell ⟨L,x,none⟩ (i64 (gy:Int))).setCell ⟨L,y,none⟩ (i64 (gy:Int))).cell? ⟨Pb,0,none⟩=some (i64 (x:Int)):=by rw [World.cell?_setCell_far _ _ _ _ qh];exact s0
         have z1:((W2.setCell ⟨L,x,none⟩ (i64 (gy:Int))).setCell ⟨L,y,none⟩ (i64 (gy:Int))).cell? ⟨Pb,1,none⟩=some (i64 (y:Int)):=by rw [World.cell?_setCell_far _ _ _ _ qh];exact s1
         clear T1;go_wp2_with fail
         refine ay (fun w'=>w'.cell? ⟨Pb,0,none⟩=some (i64 (x:Int))∧w'.cell? ⟨Pb,1,none⟩=some (i64 (y:Int))) (fun w'=>True) (fun i=>false) (by kernel_rfl) (⟨p0,p1⟩) (trivial) (fun ar ah=> ?_);refine av 0 (.slice (some ⟨L,0,none⟩) n n) rfl ar ah ?_;simp only [sS];refine av 1 (.pointer (some ⟨Pb,0,none⟩)) rfl ar ah ?_;simp only [sS];refine av 2 (.int .i64 (x:Int)) rfl ar ah ?_;simp only [sS];refine av 3 (.slice (some ⟨L,0,none⟩) n n) rfl ar ah ?_;simp only [sS];refine av 4 (.pointer (some ⟨Pb,1,none⟩)) rfl ar ah ?_;simp only [sS];refine av 5 (.int .i64 (y:Int)) rfl ar ah ?_;simp only [sS];refine av 6 (i64 (gy:Int)) rfl ar ah ?_;simp only [sS];refine av 7 (i64 (gy:Int)) rfl ar ah ?_;simp only [sS];refine av 8 (.pointer (some ⟨L,x,none⟩)) rfl ar ah ?_;simp only [sS];refine cG 9 rfl (fun Kc hK=> ?_);go_simp;refine hK.out _ _ (⟨s0,s1⟩) (trivial) (fun ar ah=> ?_);clear hK Kc;try simp only [sS]
         refine av 10 (.pointer (some ⟨L,y,none⟩)) rfl ar ah ?_;simp only [sS];refine cG 11 rfl (fun Kc hK=> ?_);go_simp;refine hK.out _ _ (⟨z0,z1⟩) (trivial) (fun ar ah=> ?_);clear hK Kc;try simp only [sS]
         refine ax (by kernel_rfl) ?_ _;clear ar ah
         have F8:Hid (iP ((W2.setCell ⟨L,x,none⟩ (i64 (gy:Int))).setCell ⟨L,y,none⟩ (i64 (gy:Int))) L (dT g (x,y)) n):=by
          show iP _ _ _ _;have h5:=(HT.out.set x gy).set y gy;have e5:dT g (x,y)=fG (fG g x gy) y gy:=by unfold dT;rw [DB.out,DC.out,HM.out]
          rw [e5];exact h5
         have F9:Hid (Ext V ((W2.setCell ⟨L,x,none⟩ (i64 (gy:Int))).setCell ⟨L,y,none⟩ (i64 (gy:Int)))):=(dC.out.setCell uu.out _).setCell uu.out _;have o7:=qU.out;rw [DB.out,DC.out,F7.out]at o7;have o7:=ae o7;clear p0 p1 l0 l1 s0 s1 z0 z1 vy fx fy nx ny;go_wp2_with fail
         exact ⟨⟨i+1,dT g (x,y),true,by omega,F8.out,F9.out.drew.drew,o7.out,rfl,by go_num⟩,by simp only [intOf];omega⟩
        ·have tt: ¬((gy:Int)<(gx:Int)):=by omega
         have nx:((gx:Int) !=(gx:Int))=false:=by simp
         have ny:((gy:Int) !=(gx:Int))=false:=by simp;omega
         have HM:Hid (min gx gy=gx):=by(show _=_;omega)
         have F7:Hid ((false||(gx !=min gx gy)||(gy !=min gx gy))=false):=by(show _=_;rw [HM.out];simp;omega)
         clear hw;go_wp2_with fail
         refine ay (fun w'=>w'.cell? ⟨Pb,0,none⟩=some (i64 (x:Int))∧w'.cell? ⟨Pb,1,none⟩=some (i64 (y:Int))∧w'.cell? ⟨L,x,none⟩=some (i64 (gx:Int))∧w'.cell? ⟨L,y,none⟩=some (i64 (gy:Int))) (fun w'=>True) (fun i=>false) (by kernel_rfl) (⟨p0,p1,l0,l1⟩) (trivial) (fun ar ah=> ?_);refine av 0 (.slice (some ⟨L,0,none⟩) n n) rfl ar ah ?_;simp only [sS];refine av 1 (.pointer (some ⟨Pb,0,none⟩)) rfl ar ah ?_;simp only [sS];refine av 2 (.int .i64 (x:Int)) rfl ar ah ?_;simp only [sS];refine av 3 (.pointer (some ⟨L,x,none⟩)) rfl ar ah ?_;simp only [sS];refine av 4 (i64 (gx:Int)) rfl ar ah ?_;simp only [sS];refine av 5 (.slice (some ⟨L,0,none⟩) n n) rfl ar ah ?_;simp only [sS];refine av 6 (.pointer (some ⟨Pb,1,none⟩)) rfl ar ah ?_;simp only [sS];refine av 7 (.int .i64 (y:Int)) rfl ar ah ?_;simp only [sS];refine av 8 (.pointer (some ⟨L,y,none⟩)) rfl ar ah ?_;simp only [sS];refine av 9 (i64 (gy:Int)) rfl ar ah ?_;simp only [sS];refine av 10 (i64 (gx:Int)) rfl ar ah ?_ (by rintro w ⟨e0,e1,e2,e3⟩;(go_simp<;>omega));simp only [sS];refine av 11 (i64 (gx:Int)) rfl ar ah ?_;simp only [sS];refine ax (by kernel_rfl) ?_ _;clear ar ah;clear tt;have T1:=HT.out.set x gx;have l0:W2.drew.cell? ⟨L,x,none⟩=some (i64 (gx:Int)):=l0;have fx:W2.frozen? ⟨L,x,none⟩=false:=(HT.out.cell x hx).2;have fy:(W2.setCell ⟨L,x,none⟩ (i64 (gx:Int))).frozen? ⟨L,y,none⟩=false:=(T1.cell y hy).2;have vy:(W2.setCell ⟨L,x,none⟩ (i64 (gx:Int))).cell? ⟨L,y,none⟩=some (i64 ((fG g x gx y:Nat):Int)):=(T1.cell y hy).1;have s0:(W2.setCell ⟨L,x,none⟩ (i64 (gx:Int))).cell? ⟨Pb,0,none⟩=some (i64 (x:Int)):=by rw [World.cell?_setCell_far _ _ _ _ qh];exact p0
         have s1:(W2.setCell ⟨L,x,none⟩ (i64 (gx:Int))).cell? ⟨Pb,1,none⟩=some (i64 (y:Int)):=by rw [World.cell?_setCell_far _ _ _ _ qh];exact p1
         have z0:((W2.setCell ⟨L,x,none⟩ (i64 (gx:Int))).setCell ⟨L,y,none⟩ (i64 (gx:Int))).cell? ⟨Pb,0,none⟩=some (i64 (x:Int)):=by rw [World.cell?_setCell_far _ _ _ _ qh];exact s0
         have z1:((W2.setCell ⟨L,x,none⟩ (i64 (gx:Int))).setCell ⟨L,y,none⟩ (i64 (gx:Int))).cell? ⟨Pb,1,none⟩=some (i64 (y:Int)):=by rw [World.cell?_setCell_far _ _ _ _ qh];exact s1
         clear T1;go_wp2_with fail
         refine ay (fun w'=>w'.cell? ⟨Pb,0,none⟩=some (i64 (x:Int))∧w'.cell? ⟨Pb,1,none⟩=some (i64 (y:Int))) (fun w'=>True) (fun i=>false) (by kernel_rfl) (⟨p0,p1⟩) (trivial) (fun ar ah=> ?_);refine av 0 (.slice (some ⟨L,0,none⟩) n n) rfl ar ah ?_;simp only [sS];refine av 1 (.pointer (some ⟨Pb,0,none⟩)) rfl ar ah ?_;simp only [sS];refine av 2 (.int .i64 (x:Int)) rfl ar ah ?_;simp only [sS];refine av 3 (.slice (some ⟨L,0,none⟩) n n) rfl ar ah ?_;simp only [sS];refine av 4 (.pointer (some ⟨Pb,1,none⟩)) rfl ar ah ?_;simp only [sS];refine av 5 (.int .i64 (y:Int)) rfl ar ah ?_;simp only [sS];refine av 6 (i64 (gx:Int)) rfl ar ah ?_;simp only [sS];refine av 7 (i64 (gx:Int)) rfl ar ah ?_;simp only [sS];refine av 8 (.pointer (some ⟨L,x,none⟩)) rfl ar ah ?_;simp only [sS];refine cG 9 rfl (fun Kc hK=> ?_);go_simp;refine hK.out _ _ (⟨s0,s1⟩) (trivial) (fun ar ah=> ?_);clear hK Kc;try simp only [sS]
         refine av 10 (.pointer (some ⟨L,y,none⟩)) rfl ar ah ?_;simp only [sS];refine cG 11 rfl (fun Kc hK=> ?_);go_simp;refine hK.out _ _ (⟨z0,z1⟩) (trivial) (fun ar ah=> ?_);clear hK Kc;try simp only [sS]
         refine ax (by kernel_rfl) ?_ _;clear ar ah
         have F8:Hid (iP ((W2.setCell ⟨L,x,none⟩ (i64 (gx:Int))).setCell ⟨L,y,none⟩ (i64 (gx:Int))) L (dT g (x,y)) n):=by
          show iP _ _ _ _;have h5:=(HT.out.set x gx).set y gx;have e5:dT g (x,y)=fG (fG g x gx) y gx:=by unfold dT;rw [DB.out,DC.out,HM.out]
          rw [e5];exact h5
         have F9:Hid (Ext V ((W2.setCell ⟨L,x,none⟩ (i64 (gx:Int))).setCell ⟨L,y,none⟩ (i64 (gx:Int)))):=(dC.out.setCell uu.out _).setCell uu.out _;have o7:=qU.out;rw [DB.out,DC.out,F7.out]at o7;have o7:=ae o7;clear p0 p1 l0 l1 s0 s1 z0 z1 vy fx fy nx ny;go_wp2_with fail
         exact ⟨⟨i+1,dT g (x,y),false,by omega,F8.out,F9.out.drew.drew,o7.out,rfl,by go_num⟩,by simp only [intOf];omega⟩
        ·have tt: ¬((gy:Int)<(gx:Int)):=by omega
         have nx:((gx:Int) !=(gx:Int))=false:=by simp
         have ny:((gy:Int) !=(gx:Int))=true:=by simp;omega
         have HM:Hid (min gx gy=gx):=by(show _=_;omega)
         have F7:Hid ((false||(gx !=min gx gy)||(gy !=min gx gy))=true):=by(show _=_;rw [HM.out];simp;omega)
         clear hw;go_wp2_with fail
         refine ay (fun w'=>w'.cell? ⟨Pb,0,none⟩=some (i64 (x:Int))∧w'.cell? ⟨Pb,1,none⟩=some (i64 (y:Int))∧w'.cell? ⟨L,x,none⟩=some (i64 (gx:Int))∧w'.cell? ⟨L,y,none⟩=some (i64 (gy:Int))) (fun w'=>True) (fun i=>false) (by kernel_rfl) (⟨p0,p1,l0,l1⟩) (trivial) (fun ar ah=> ?_);refine av 0 (.slice (some ⟨L,0,none⟩) n n) rfl ar ah ?_;simp only [sS];refine av 1 (.pointer (some ⟨Pb,0,none⟩)) rfl ar ah ?_;simp only [sS];refine av 2 (.int .i64 (x:Int)) rfl ar ah ?_;simp only [sS];refine av 3 (.pointer (some ⟨L,x,none⟩)) rfl ar ah ?_;simp only [sS];refine av 4 (i64 (gx:Int)) rfl ar ah ?_;simp only [sS];refine av 5 (.slice (some ⟨L,0,none⟩) n n) rfl ar ah ?_;simp only [sS];refine av 6 (.pointer (some ⟨Pb,1,none⟩)) rfl ar ah ?_;simp only [sS];refine av 7 (.int .i64 (y:Int)) rfl ar ah ?_;simp only [sS];refine av 8 (.pointer (some ⟨L,y,none⟩)) rfl ar ah ?_;simp only [sS];refine av 9 (i64 (gy:Int)) rfl ar ah ?_;simp only [sS];refine av 10 (i64 (gx:Int)) rfl ar ah ?_ (by rintro w ⟨e0,e1,e2,e3⟩;(go_simp<;>omega));simp only [sS];refine av 11 (i64 (gx:Int)) rfl ar ah ?_;simp only [sS];refine ax (by kernel_rfl) ?_ _;clear ar ah;clear tt;have T1:=HT.out.set x gx;have l0:W2.drew.cell? ⟨L,x,none⟩=some (i64 (gx:Int)):=l0;have fx:W2.frozen? ⟨L,x,none⟩=false:=(HT.out.cell x hx).2;have fy:(W2.setCell ⟨L,x,none⟩ (i64 (gx:Int))).frozen? ⟨L,y,none⟩=false:=(T1.cell y hy).2;have vy:(W2.setCell ⟨L,x,none⟩ (i64 (gx:Int))).cell? ⟨L,y,none⟩=some (i64 ((fG g x gx y:Nat):Int)):=(T1.cell y hy).1;have s0:(W2.setCell ⟨L,x,none⟩ (i64 (gx:Int))).cell? ⟨Pb,0,none⟩=some (i64 (x:Int)):=by rw [World.cell?_setCell_far _ _ _ _ qh];exact p0
         have s1:(W2.setCell ⟨L,x,none⟩ (i64 (gx:Int))).cell? ⟨Pb,1,none⟩=some (i64 (y:Int)):=by rw [World.cell?_setCell_far _ _ _ _ qh];exact p1
         have z0:((W2.setCell ⟨L,x,none⟩ (i64 (gx:Int))).setCell ⟨L,y,none⟩ (i64 (gx:Int))).cell? ⟨Pb,0,none⟩=some (i64 (x:Int)):=by rw [World.cell?_setCell_far _ _ _ _ qh];exact s0
         have z1:((W2.setCell ⟨L,x,none⟩ (i64 (gx:Int))).setCell ⟨L,y,none⟩ (i64 (gx:Int))).cell? ⟨Pb,1,none⟩=some (i64 (y:Int)):=by rw [World.cell?_setCell_far _ _ _ _ qh];exact s1
         clear T1;go_wp2_with fail
         refine ay (fun w'=>w'.cell? ⟨Pb,0,none⟩=some (i64 (x:Int))∧w'.cell? ⟨Pb,1,none⟩=some (i64 (y:Int))) (fun w'=>True) (fun i=>false) (by kernel_rfl) (⟨p0,p1⟩) (trivial) (fun ar ah=> ?_);refine av 0 (.slice (some ⟨L,0,none⟩) n n) rfl ar ah ?_;simp only [sS];refine av 1 (.pointer (some ⟨Pb,0,none⟩)) rfl ar ah ?_;simp only [sS];refine av 2 (.int .i64 (x:Int)) rfl ar ah ?_;simp only [sS];refine av 3 (.slice (some ⟨L,0,none⟩) n n) rfl ar ah ?_;simp only [sS];refine av 4 (.pointer (some ⟨Pb,1,none⟩)) rfl ar ah ?_;simp only [sS];refine av 5 (.int .i64 (y:Int)) rfl ar ah ?_;simp only [sS];refine av 6 (i64 (gx:Int)) rfl ar ah ?_;simp only [sS];refine av 7 (i64 (gx:Int)) rfl ar ah ?_;simp only [sS];refine av 8 (.pointer (some ⟨L,x,none⟩)) rfl ar ah ?_;simp only [sS];refine cG 9 rfl (fun Kc hK=> ?_);go_simp;refine hK.out _ _ (⟨s0,s1⟩) (trivial) (fun ar ah=> ?_);clear hK Kc;try simp only [sS]
         refine av 10 (.pointer (some ⟨L,y,none⟩)) rfl ar ah ?_;simp only [sS];refine cG 11 rfl (fun Kc hK=> ?_);go_simp;refine hK.out _ _ (⟨z0,z1⟩) (trivial) (fun ar ah=> ?_);clear hK Kc;try simp only [sS]
         refine ax (by kernel_rfl) ?_ _;clear ar ah
         have F8:Hid (iP ((W2.setCell ⟨L,x,none⟩ (i64 (gx:Int))).setCell ⟨L,y,none⟩ (i64 (gx:Int))) L (dT g (x,y)) n):=by
          show iP _ _ _ _;have h5:=(HT.out.set x gx).set y gx;have e5:dT g (x,y)=fG (fG g x gx) y gx:=by unfold dT;rw [DB.out,DC.out,HM.out]
          rw [e5];exact h5
         have F9:Hid (Ext V ((W2.setCell ⟨L,x,none⟩ (i64 (gx:Int))).setCell ⟨L,y,none⟩ (i64 (gx:Int)))):=(dC.out.setCell uu.out _).setCell uu.out _;have o7:=qU.out;rw [DB.out,DC.out,F7.out]at o7;have o7:=ae o7;clear p0 p1 l0 l1 s0 s1 z0 z1 vy fx fy nx ny;go_wp2_with fail
         exact ⟨⟨i+1,dT g (x,y),true,by omega,F8.out,F9.out.drew.drew,o7.out,rfl,by go_num⟩,by simp only [intOf];omega⟩
      ·obtain rfl:i=E.length:=by omega
       have hr:=HG.out;have HR:=ae (And.intro hT (And.intro hX hI));clear hT hX hI;go_wp2_with fail
       go_roundg (gk-1)
       case measure=>omega
       case rel=>
        refine ⟨g,ag,fun e=> ?_,HR.out.1,HR.out.2.1,HR.out.2.2.least,fun e=> ?_,rfl⟩
        ·have:=HR.out.2.2.yes e;omega
        ·have:=HR.out.2.2.no e;rw [List.take_length]at this;exact this
end Go.Proofs.YtkpngkdgphojlaaGreat
