/- Texts of the proof. -/
import Derived.Test.YtkpngkdgphojlaaGreatCf17
set_option linter.all false
set_option maxHeartbeats 4000000
set_option maxRecDepth 100000
namespace Go.Proofs.YtkpngkdgphojlaaGreat
open Go.Proofs.Tryz
open Go.RowKit
def eR (E:List (Nat×Nat)):List (List Value):=E.map fun p=> [i64 ((p.1:Nat):Int),i64 ((p.2:Nat):Int)]
theorem eN (E:List (Nat×Nat)):(eR E).length=E.length:=by simp [eR]
theorem tM {w:World} {a:Option Addr} {c:Nat} {E:List (Nat×Nat)} (h:bH w 2 a c (eR E)) (i:Nat) (hi:i<E.length): ∃b o,a=some ⟨b,o,none⟩∧w.cell? ⟨b,o+i*2,none⟩=some (i64 ((E[i].1:Nat):Int))∧w.cell? ⟨b,o+i*2+1,none⟩=some (i64 ((E[i].2:Nat):Int)):=by
 obtain ⟨b,o,ha,hc⟩:=h.cell i (by rw [eN];exact hi);have e:(eR E)[i]'(by rw [eN];exact hi)= [i64 ((E[i].1:Nat):Int),i64 ((E[i].2:Nat):Int)]:=by simp [eR]
 simp only [e]at hc;exact ⟨b,o,ha,hc 0 (by simp),hc 1 (by simp)⟩
theorem tN (V:World) (n:Nat) (a:Option Addr) (c:Nat) (E:List (Nat×Nat)) (hn:n≤1000000) (hE:E.length≤1000000) (hP:bH V 2 a c (eR E)) (hb: ∀p∈E,p.1<n∧p.2<n):
 Calls prog 105 #[.int .i64 (n:Int),.slice a E.length c] V fun e w'=> ∃b f,e= .returned (.slice (some ⟨b,0,none⟩) n n)∧jU w' b f n∧Ext V w'∧V.heap.size≤b∧kh n E f∧ ∀p∈E,f p.1=f p.2:=by
 have hle:=hP.le;have dQ:=hP.cap
 rw [eN]at hle;have HP:=ae hP;have EN:=ae hb
 clear hP hb;go_enter func105,ntmps105
 go_wp2_with (at_make;refine bO _ rfl _ _ 22 rfl 3 (.int .i64 0) 8 underlying22 Tryz.info_int rfl _ _ n rfl rfl rfl rfl (by omega) (by omega) ?_;intro w1 gH hx1 hz1)
 obtain ⟨L,hL⟩: ∃L,L=V.heap.size:=⟨_,rfl⟩;rw [←hL]at gH⊢;have Bp:Hid (V.heap.size≤L):=by show _≤_;omega
 have zj:=ae (jU.zero gH.o);have eE:=ae hx1
 clear gH hx1 hz1 hL;go_loopw [6] (fun ii wr=> ∃k:Nat,k≤n∧jU wr L (fun b=>if b<k then b else 0) n∧Ext V wr∧ii= .int .i64 k) (fun ii _=>n-(intOf ii).toNat)
 case atStart=>exact ⟨0,Nat.zero_le _,zj.o,eE.o,rfl⟩
 case round=>
  obtain ⟨k,hk,hT,hX,rfl⟩:=hrel;clear zj eE;by_cases hlt:k<n
  ·obtain ⟨c0,f0⟩:=hT.cell k hlt
   have p7:=ae hT.next;have ez:=ae (hX.setCell (p:=⟨L,k,none⟩) Bp.o (i64 (k:Int)))
   have b0:(0:Int)≤(k:Int):=by omega
   have b1:(k:Int)<(n:Int):=by omega
   clear hT hX;go_wp2_with fail
   exact ⟨⟨k+1,by omega,p7.o,ez.o,by go_num⟩,by simp only [intOf];omega⟩
  ·obtain rfl:n=k:=by omega
   have p7:=ae hT.full;have ez:=ae hX
   clear hT hX;go_wp2_with fail
   go_loopg [7] (sumTo (fun b=>b) n+1) (fun g aa wl=> ∃(f:Nat→Nat) (ag:Bool),(ag=true→sumTo f n+1≤g)∧jU wl L f n∧Ext V wl∧kh n E f∧(ag=false→ ∀p∈E,f p.1=f p.2)∧aa= .bool ag)
   case atStart=>exact ⟨fun b=>b,true,fun _=>Nat.le_refl _,p7.o,ez.o,kh.start n E,(fun e=>by cases e),rfl⟩
   case round=>
    obtain ⟨f,ag,hg,hT,hX,Qs,hno,rfl⟩:=hrel;clear p7 ez;cases ag with
    |false=>
     have HR:=ae (And.intro hT (And.intro hX (And.intro Qs (hno rfl))));clear hT hX Qs hno hg;go_wp2_with fail
     go_ret;exact ⟨L,f,rfl,HR.o.1,HR.o.2.1,Bp.o,HR.o.2.2.1,HR.o.2.2.2⟩
    |true=>
     have hg1:=hg rfl;have p7:=ae hT;have ez:=ae hX;have MU:=ae Qs
     have HG:=ae hg1;clear hT hX Qs hno hg hg1;go_wp2_with fail
     go_loopw [7,25] (fun aa ii wl=> ∃(i:Nat) (g:Nat→Nat) (ag:Bool),i≤E.length∧jU wl L g n∧Ext V wl∧tL n E f i g ag∧aa= .bool ag∧ii= .int .i64 i) (fun _ ii _=>E.length-(intOf ii).toNat)
     case atStart=>exact ⟨0,f,false,Nat.zero_le _,p7.o,ez.o,tL.start MU.o,rfl,rfl⟩
     case round=>
      obtain ⟨i,g,ag,hi,hT,hX,hI,rfl,rfl⟩:=hrel;clear p7 ez;by_cases hlt:i<E.length
      ·obtain ⟨b,o,ha,r0,r1⟩:=tM ((HP.o.ext hX)) i hlt
       obtain ⟨hx,hy⟩:=EN.o E[i] (List.getElem_mem hlt);have uk:=ae (hI.step hlt hx hy);obtain ⟨⟨x,y⟩,pF⟩: ∃p,p=E[i]:=⟨_,rfl⟩;rw [←pF]at r0 r1 hx hy uk;simp only at r0 r1 hx hy;obtain ⟨gx,hgx⟩: ∃gx,gx=g x:=⟨_,rfl⟩;obtain ⟨gy,hgy⟩: ∃gy,gy=g y:=⟨_,rfl⟩;have Gz:Hid (g x=gx):=hgx.symm;have GA:Hid (g y=gy):=hgy.symm;have uk:Hid (tL n E f (i+1) (eJ g (x,y)) (ag||(g x !=min (g x) (g y))||(g y !=min (g x) (g y)))):=uk.o;have Na:=ae hT;have zy:=ae hX;have uF:=ae ha
       have jS:(0:Int)≤(i:Int):=by omega
       have jI:(i:Int)<(E.length:Int):=by omega
       have bx0:(0:Int)≤(x:Int):=by omega
       have bx1:(x:Int)<(n:Int):=by omega
       have Sz:(0:Int)≤(y:Int):=by omega
       have by1:(y:Int)<(n:Int):=by omega
       clear hT hX hI pF hgx hgy ha;rw [uF.o];go_upto_region 12 with fail
       obtain ⟨W2,hW2,x2,Z2,A2⟩:=aX wr 166 [i64 (x:Int),i64 (y:Int)];rw [show wr.alloc (.cells #[i64 (x:Int),i64 (y:Int)] 166)=W2 from hW2.symm];clear hW2;obtain ⟨Pb,hPb⟩: ∃Pb,Pb=wr.heap.size:=⟨_,rfl⟩;rw [←hPb]at A2⊢;have uJ:L≠Pb:=by have:=Na.o.lt;omega
       have HT:=ae (Na.o.ext x2);have ez:=ae (zy.o.trans x2)
       have p0:W2.cell? ⟨Pb,0,none⟩=some (i64 (x:Int)):=(A2.cell 0).trans rfl;have p1:W2.cell? ⟨Pb,1,none⟩=some (i64 (y:Int)):=(A2.cell 1).trans rfl;have l0:W2.cell? ⟨L,x,none⟩=some (i64 (gx:Int)):=by rw [←Gz.o];exact (HT.o.cell x hx).1
       have l1:W2.cell? ⟨L,y,none⟩=some (i64 (gy:Int)):=by rw [←GA.o];exact (HT.o.cell y hy).1
       clear hPb Z2 A2 r0 r1 x2 Na zy;have hw:gy<gx∨gy=gx∨gx<gy:=by omega
       cases ag with
       |true=>
        rcases hw with hw|hw|hw
        ·have tt:(gy:Int)<(gx:Int):=by omega
         have nx:((gx:Int) !=(gy:Int))=true:=by simp;omega
         have ny:((gy:Int) !=(gy:Int))=false:=by simp
         have HM:Hid (min gx gy=gy):=by(show _=_;omega)
         have I9:Hid ((true||(gx !=min gx gy)||(gy !=min gx gy))=true):=by(show _=_;rw [HM.o];simp)
         clear hw;go_wp2_with fail
         refine aL (fun w'=>w'.cell? ⟨Pb,0,none⟩=some (i64 (x:Int))∧w'.cell? ⟨Pb,1,none⟩=some (i64 (y:Int))∧w'.cell? ⟨L,x,none⟩=some (i64 (gx:Int))∧w'.cell? ⟨L,y,none⟩=some (i64 (gy:Int))) (fun w'=>True) (fun i=>false) (by kernel_rfl) (⟨p0,p1,l0,l1⟩) (trivial) (fun ay ah=> ?_);refine aF 0 ay ah ?_;refine aF 1 ay ah ?_;refine aF 2 ay ah ?_ (v:= .int .i64 (x:Int));refine aF 3 ay ah ?_;refine aF 4 ay ah ?_ (v:=i64 (gx:Int));refine aF 5 ay ah ?_;refine aF 6 ay ah ?_;refine aF 7 ay ah ?_ (v:= .int .i64 (y:Int));refine aF 8 ay ah ?_;refine aF 9 ay ah ?_ (v:=i64 (gy:Int));refine aF 10 ay ah ?_ (v:=i64 (gy:Int)) (hy:=by rintro w ⟨e0,e1,e2,e3⟩;(go_simp<;>omega));refine aF 11 ay ah ?_ (v:=i64 (gy:Int));refine aD (by kernel_rfl) ?_ _;clear ay ah;clear tt;have T1:=HT.o.set x gy;have l0:W2.drew.cell? ⟨L,x,none⟩=some (i64 (gx:Int)):=l0;have fx:W2.frozen? ⟨L,x,none⟩=false:=(HT.o.cell x hx).2;have fy:(W2.setCell ⟨L,x,none⟩ (i64 (gy:Int))).frozen? ⟨L,y,none⟩=false:=(T1.cell y hy).2;have vy:(W2.setCell ⟨L,x,none⟩ (i64 (gy:Int))).cell? ⟨L,y,none⟩=some (i64 ((gT g x gy y:Nat):Int)):=(T1.cell y hy).1;have s0:(W2.setCell ⟨L,x,none⟩ (i64 (gy:Int))).cell? ⟨Pb,0,none⟩=some (i64 (x:Int)):=by rw [World.cell?_setCell_far _ _ _ _ uJ];exact p0
         have s1:(W2.setCell ⟨L,x,none⟩ (i64 (gy:Int))).cell? ⟨Pb,1,none⟩=some (i64 (y:Int)):=by rw [World.cell?_setCell_far _ _ _ _ uJ];exact p1
         have z0:((W2.setCell ⟨L,x,none⟩ (i64 (gy:Int))).setCell ⟨L,y,none⟩ (i64 (gy:Int))).cell? ⟨Pb,0,none⟩=some (i64 (x:Int)):=by rw [World.cell?_setCell_far _ _ _ _ uJ];exact s0
         have z1:((W2.setCell ⟨L,x,none⟩ (i64 (gy:Int))).setCell ⟨L,y,none⟩ (i64 (gy:Int))).cell? ⟨Pb,1,none⟩=some (i64 (y:Int)):=by rw [World.cell?_setCell_far _ _ _ _ uJ];exact s1
         clear T1;go_wp2_with fail
         refine aL (fun w'=>w'.cell? ⟨Pb,0,none⟩=some (i64 (x:Int))∧w'.cell? ⟨Pb,1,none⟩=some (i64 (y:Int))) (fun w'=>True) (fun i=>false) (by kernel_rfl) (⟨p0,p1⟩) (trivial) (fun ay ah=> ?_);refine aF 0 ay ah ?_;refine aF 1 ay ah ?_;refine aF 2 ay ah ?_ (v:= .int .i64 (x:Int));refine aF 3 ay ah ?_;refine aF 4 ay ah ?_;refine aF 5 ay ah ?_ (v:= .int .i64 (y:Int));refine aF 6 ay ah ?_ (v:=i64 (gy:Int));refine aF 7 ay ah ?_ (v:=i64 (gy:Int));refine aF 8 ay ah ?_;refine fp 9 rfl (fun Kc hK=> ?_);go_simp;refine hK.o _ _ (⟨s0,s1⟩) (trivial) (fun ay ah=> ?_);clear hK Kc;try simp only [sS]
         refine aF 10 ay ah ?_;refine fp 11 rfl (fun Kc hK=> ?_);go_simp;refine hK.o _ _ (⟨z0,z1⟩) (trivial) (fun ay ah=> ?_);clear hK Kc;try simp only [sS]
         refine aD (by kernel_rfl) ?_ _;clear ay ah
         have I_:Hid (jU ((W2.setCell ⟨L,x,none⟩ (i64 (gy:Int))).setCell ⟨L,y,none⟩ (i64 (gy:Int))) L (eJ g (x,y)) n):=by
          show jU _ _ _ _;have h5:=(HT.o.set x gy).set y gy;have e5:eJ g (x,y)=gT (gT g x gy) y gy:=by unfold eJ;rw [Gz.o,GA.o,HM.o]
          rw [e5];exact h5
         have I':Hid (Ext V ((W2.setCell ⟨L,x,none⟩ (i64 (gy:Int))).setCell ⟨L,y,none⟩ (i64 (gy:Int)))):=(ez.o.setCell Bp.o _).setCell Bp.o _;have qX:=uk.o;rw [Gz.o,GA.o,I9.o]at qX;have qX:=ae qX;clear p0 p1 l0 l1 s0 s1 z0 z1 vy fx fy nx ny;go_wp2_with fail
         exact ⟨⟨i+1,eJ g (x,y),true,by omega,I_.o,I'.o.drew.drew,qX.o,rfl,by go_num⟩,by simp only [intOf];omega⟩
        ·have tt: ¬((gy:Int)<(gx:Int)):=by omega
         have nx:((gx:Int) !=(gx:Int))=false:=by simp
         have ny:((gy:Int) !=(gx:Int))=false:=by simp;omega
         have HM:Hid (min gx gy=gx):=by(show _=_;omega)
         have I9:Hid ((true||(gx !=min gx gy)||(gy !=min gx gy))=true):=by(show _=_;rw [HM.o];simp)
         clear hw;go_wp2_with fail
         refine aL (fun w'=>w'.cell? ⟨Pb,0,none⟩=some (i64 (x:Int))∧w'.cell? ⟨Pb,1,none⟩=some (i64 (y:Int))∧w'.cell? ⟨L,x,none⟩=some (i64 (gx:Int))∧w'.cell? ⟨L,y,none⟩=some (i64 (gy:Int))) (fun w'=>True) (fun i=>false) (by kernel_rfl) (⟨p0,p1,l0,l1⟩) (trivial) (fun ay ah=> ?_);refine aF 0 ay ah ?_;refine aF 1 ay ah ?_;refine aF 2 ay ah ?_ (v:= .int .i64 (x:Int));refine aF 3 ay ah ?_;refine aF 4 ay ah ?_ (v:=i64 (gx:Int));refine aF 5 ay ah ?_;refine aF 6 ay ah ?_;refine aF 7 ay ah ?_ (v:= .int .i64 (y:Int));refine aF 8 ay ah ?_;refine aF 9 ay ah ?_ (v:=i64 (gy:Int));refine aF 10 ay ah ?_ (v:=i64 (gx:Int)) (hy:=by rintro w ⟨e0,e1,e2,e3⟩;(go_simp<;>omega));refine aF 11 ay ah ?_ (v:=i64 (gx:Int));refine aD (by kernel_rfl) ?_ _;clear ay ah;clear tt;have T1:=HT.o.set x gx;have l0:W2.drew.cell? ⟨L,x,none⟩=some (i64 (gx:Int)):=l0;have fx:W2.frozen? ⟨L,x,none⟩=false:=(HT.o.cell x hx).2;have fy:(W2.setCell ⟨L,x,none⟩ (i64 (gx:Int))).frozen? ⟨L,y,none⟩=false:=(T1.cell y hy).2;have vy:(W2.setCell ⟨L,x,none⟩ (i64 (gx:Int))).cell? ⟨L,y,none⟩=some (i64 ((gT g x gx y:Nat):Int)):=(T1.cell y hy).1;have s0:(W2.setCell ⟨L,x,none⟩ (i64 (gx:Int))).cell? ⟨Pb,0,none⟩=some (i64 (x:Int)):=by rw [World.cell?_setCell_far _ _ _ _ uJ];exact p0
         have s1:(W2.setCell ⟨L,x,none⟩ (i64 (gx:Int))).cell? ⟨Pb,1,none⟩=some (i64 (y:Int)):=by rw [World.cell?_setCell_far _ _ _ _ uJ];exact p1
         have z0:((W2.setCell ⟨L,x,none⟩ (i64 (gx:Int))).setCell ⟨L,y,none⟩ (i64 (gx:Int))).cell? ⟨Pb,0,none⟩=some (i64 (x:Int)):=by rw [World.cell?_setCell_far _ _ _ _ uJ];exact s0
         have z1:((W2.setCell ⟨L,x,none⟩ (i64 (gx:Int))).setCell ⟨L,y,none⟩ (i64 (gx:Int))).cell? ⟨Pb,1,none⟩=some (i64 (y:Int)):=by rw [World.cell?_setCell_far _ _ _ _ uJ];exact s1
         clear T1;go_wp2_with fail
         refine aL (fun w'=>w'.cell? ⟨Pb,0,none⟩=some (i64 (x:Int))∧w'.cell? ⟨Pb,1,none⟩=some (i64 (y:Int))) (fun w'=>True) (fun i=>false) (by kernel_rfl) (⟨p0,p1⟩) (trivial) (fun ay ah=> ?_);refine aF 0 ay ah ?_;refine aF 1 ay ah ?_;refine aF 2 ay ah ?_ (v:= .int .i64 (x:Int));refine aF 3 ay ah ?_;refine aF 4 ay ah ?_;refine aF 5 ay ah ?_ (v:= .int .i64 (y:Int));refine aF 6 ay ah ?_ (v:=i64 (gx:Int));refine aF 7 ay ah ?_ (v:=i64 (gx:Int));refine aF 8 ay ah ?_;refine fp 9 rfl (fun Kc hK=> ?_);go_simp;refine hK.o _ _ (⟨s0,s1⟩) (trivial) (fun ay ah=> ?_);clear hK Kc;try simp only [sS]
         refine aF 10 ay ah ?_;refine fp 11 rfl (fun Kc hK=> ?_);go_simp;refine hK.o _ _ (⟨z0,z1⟩) (trivial) (fun ay ah=> ?_);clear hK Kc;try simp only [sS]
         refine aD (by kernel_rfl) ?_ _;clear ay ah
         have I_:Hid (jU ((W2.setCell ⟨L,x,none⟩ (i64 (gx:Int))).setCell ⟨L,y,none⟩ (i64 (gx:Int))) L (eJ g (x,y)) n):=by
          show jU _ _ _ _;have h5:=(HT.o.set x gx).set y gx;have e5:eJ g (x,y)=gT (gT g x gx) y gx:=by unfold eJ;rw [Gz.o,GA.o,HM.o]
          rw [e5];exact h5
         have I':Hid (Ext V ((W2.setCell ⟨L,x,none⟩ (i64 (gx:Int))).setCell ⟨L,y,none⟩ (i64 (gx:Int)))):=(ez.o.setCell Bp.o _).setCell Bp.o _;have qX:=uk.o;rw [Gz.o,GA.o,I9.o]at qX;have qX:=ae qX;clear p0 p1 l0 l1 s0 s1 z0 z1 vy fx fy nx ny;go_wp2_with fail
         exact ⟨⟨i+1,eJ g (x,y),true,by omega,I_.o,I'.o.drew.drew,qX.o,rfl,by go_num⟩,by simp only [intOf];omega⟩
        ·have tt: ¬((gy:Int)<(gx:Int)):=by omega
         have nx:((gx:Int) !=(gx:Int))=false:=by simp
         have ny:((gy:Int) !=(gx:Int))=true:=by simp;omega
         have HM:Hid (min gx gy=gx):=by(show _=_;omega)
         have I9:Hid ((true||(gx !=min gx gy)||(gy !=min gx gy))=true):=by(show _=_;rw [HM.o];simp)
         clear hw;go_wp2_with fail
         refine aL (fun w'=>w'.cell? ⟨Pb,0,none⟩=some (i64 (x:Int))∧w'.cell? ⟨Pb,1,none⟩=some (i64 (y:Int))∧w'.cell? ⟨L,x,none⟩=some (i64 (gx:Int))∧w'.cell? ⟨L,y,none⟩=some (i64 (gy:Int))) (fun w'=>True) (fun i=>false) (by kernel_rfl) (⟨p0,p1,l0,l1⟩) (trivial) (fun ay ah=> ?_);refine aF 0 ay ah ?_;refine aF 1 ay ah ?_;refine aF 2 ay ah ?_ (v:= .int .i64 (x:Int));refine aF 3 ay ah ?_;refine aF 4 ay ah ?_ (v:=i64 (gx:Int));refine aF 5 ay ah ?_;refine aF 6 ay ah ?_;refine aF 7 ay ah ?_ (v:= .int .i64 (y:Int));refine aF 8 ay ah ?_;refine aF 9 ay ah ?_ (v:=i64 (gy:Int));refine aF 10 ay ah ?_ (v:=i64 (gx:Int)) (hy:=by rintro w ⟨e0,e1,e2,e3⟩;(go_simp<;>omega));refine aF 11 ay ah ?_ (v:=i64 (gx:Int));refine aD (by kernel_rfl) ?_ _;clear ay ah;clear tt;have T1:=HT.o.set x gx;have l0:W2.drew.cell? ⟨L,x,none⟩=some (i64 (gx:Int)):=l0;have fx:W2.frozen? ⟨L,x,none⟩=false:=(HT.o.cell x hx).2;have fy:(W2.setCell ⟨L,x,none⟩ (i64 (gx:Int))).frozen? ⟨L,y,none⟩=false:=(T1.cell y hy).2;have vy:(W2.setCell ⟨L,x,none⟩ (i64 (gx:Int))).cell? ⟨L,y,none⟩=some (i64 ((gT g x gx y:Nat):Int)):=(T1.cell y hy).1;have s0:(W2.setCell ⟨L,x,none⟩ (i64 (gx:Int))).cell? ⟨Pb,0,none⟩=some (i64 (x:Int)):=by rw [World.cell?_setCell_far _ _ _ _ uJ];exact p0
         have s1:(W2.setCell ⟨L,x,none⟩ (i64 (gx:Int))).cell? ⟨Pb,1,none⟩=some (i64 (y:Int)):=by rw [World.cell?_setCell_far _ _ _ _ uJ];exact p1
         have z0:((W2.setCell ⟨L,x,none⟩ (i64 (gx:Int))).setCell ⟨L,y,none⟩ (i64 (gx:Int))).cell? ⟨Pb,0,none⟩=some (i64 (x:Int)):=by rw [World.cell?_setCell_far _ _ _ _ uJ];exact s0
         have z1:((W2.setCell ⟨L,x,none⟩ (i64 (gx:Int))).setCell ⟨L,y,none⟩ (i64 (gx:Int))).cell? ⟨Pb,1,none⟩=some (i64 (y:Int)):=by rw [World.cell?_setCell_far _ _ _ _ uJ];exact s1
         clear T1;go_wp2_with fail
         refine aL (fun w'=>w'.cell? ⟨Pb,0,none⟩=some (i64 (x:Int))∧w'.cell? ⟨Pb,1,none⟩=some (i64 (y:Int))) (fun w'=>True) (fun i=>false) (by kernel_rfl) (⟨p0,p1⟩) (trivial) (fun ay ah=> ?_);refine aF 0 ay ah ?_;refine aF 1 ay ah ?_;refine aF 2 ay ah ?_ (v:= .int .i64 (x:Int));refine aF 3 ay ah ?_;refine aF 4 ay ah ?_;refine aF 5 ay ah ?_ (v:= .int .i64 (y:Int));refine aF 6 ay ah ?_ (v:=i64 (gx:Int));refine aF 7 ay ah ?_ (v:=i64 (gx:Int));refine aF 8 ay ah ?_;refine fp 9 rfl (fun Kc hK=> ?_);go_simp;refine hK.o _ _ (⟨s0,s1⟩) (trivial) (fun ay ah=> ?_);clear hK Kc;try simp only [sS]
         refine aF 10 ay ah ?_;refine fp 11 rfl (fun Kc hK=> ?_);go_simp;refine hK.o _ _ (⟨z0,z1⟩) (trivial) (fun ay ah=> ?_);clear hK Kc;try simp only [sS]
         refine aD (by kernel_rfl) ?_ _;clear ay ah
         have I_:Hid (jU ((W2.setCell ⟨L,x,none⟩ (i64 (gx:Int))).setCell ⟨L,y,none⟩ (i64 (gx:Int))) L (eJ g (x,y)) n):=by
          show jU _ _ _ _;have h5:=(HT.o.set x gx).set y gx;have e5:eJ g (x,y)=gT (gT g x gx) y gx:=by unfold eJ;rw [Gz.o,GA.o,HM.o]
          rw [e5];exact h5
         have I':Hid (Ext V ((W2.setCell ⟨L,x,none⟩ (i64 (gx:Int))).setCell ⟨L,y,none⟩ (i64 (gx:Int)))):=(ez.o.setCell Bp.o _).setCell Bp.o _;have qX:=uk.o;rw [Gz.o,GA.o,I9.o]at qX;have qX:=ae qX;clear p0 p1 l0 l1 s0 s1 z0 z1 vy fx fy nx ny;go_wp2_with fail
         exact ⟨⟨i+1,eJ g (x,y),true,by omega,I_.o,I'.o.drew.drew,qX.o,rfl,by go_num⟩,by simp only [intOf];omega⟩
       |false=>
        rcases hw with hw|hw|hw
        ·have tt:(gy:Int)<(gx:Int):=by omega
         have nx:((gx:Int) !=(gy:Int))=true:=by simp;omega
         have ny:((gy:Int) !=(gy:Int))=false:=by simp
         have HM:Hid (min gx gy=gy):=by(show _=_;omega)
         have I9:Hid ((false||(gx !=min gx gy)||(gy !=min gx gy))=true):=by(show _=_;rw [HM.o];simp;omega)
         clear hw;go_wp2_with fail
         refine aL (fun w'=>w'.cell? ⟨Pb,0,none⟩=some (i64 (x:Int))∧w'.cell? ⟨Pb,1,none⟩=some (i64 (y:Int))∧w'.cell? ⟨L,x,none⟩=some (i64 (gx:Int))∧w'.cell? ⟨L,y,none⟩=some (i64 (gy:Int))) (fun w'=>True) (fun i=>false) (by kernel_rfl) (⟨p0,p1,l0,l1⟩) (trivial) (fun ay ah=> ?_);refine aF 0 ay ah ?_;refine aF 1 ay ah ?_;refine aF 2 ay ah ?_ (v:= .int .i64 (x:Int));refine aF 3 ay ah ?_;refine aF 4 ay ah ?_ (v:=i64 (gx:Int));refine aF 5 ay ah ?_;refine aF 6 ay ah ?_;refine aF 7 ay ah ?_ (v:= .int .i64 (y:Int));refine aF 8 ay ah ?_;refine aF 9 ay ah ?_ (v:=i64 (gy:Int));refine aF 10 ay ah ?_ (v:=i64 (gy:Int)) (hy:=by rintro w ⟨e0,e1,e2,e3⟩;(go_simp<;>omega));refine aF 11 ay ah ?_ (v:=i64 (gy:Int));refine aD (by kernel_rfl) ?_ _;clear ay ah;clear tt;have T1:=HT.o.set x gy;have l0:W2.drew.cell? ⟨L,x,none⟩=some (i64 (gx:Int)):=l0;have fx:W2.frozen? ⟨L,x,none⟩=false:=(HT.o.cell x hx).2;have fy:(W2.setCell ⟨L,x,none⟩ (i64 (gy:Int))).frozen? ⟨L,y,none⟩=false:=(T1.cell y hy).2;have vy:(W2.setCell ⟨L,x,none⟩ (i64 (gy:Int))).cell? ⟨L,y,none⟩=some (i64 ((gT g x gy y:Nat):Int)):=(T1.cell y hy).1;have s0:(W2.setCell ⟨L,x,none⟩ (i64 (gy:Int))).cell? ⟨Pb,0,none⟩=some (i64 (x:Int)):=by rw [World.cell?_setCell_far _ _ _ _ uJ];exact p0
         have s1:(W2.setCell ⟨L,x,none⟩ (i64 (gy:Int))).cell? ⟨Pb,1,none⟩=some (i64 (y:Int)):=by rw [World.cell?_setCell_far _ _ _ _ uJ];exact p1
         have z0:((W2.setCell ⟨L,x,none⟩ (i64 (gy:Int))).setCell ⟨L,y,none⟩ (i64 (gy:Int))).cell? ⟨Pb,0,none⟩=some (i64 (x:Int)):=by rw [World.cell?_setCell_far _ _ _ _ uJ];exact s0
         have z1:((W2.setCell ⟨L,x,none⟩ (i64 (gy:Int))).setCell ⟨L,y,none⟩ (i64 (gy:Int))).cell? ⟨Pb,1,none⟩=some (i64 (y:Int)):=by rw [World.cell?_setCell_far _ _ _ _ uJ];exact s1
         clear T1;go_wp2_with fail
         refine aL (fun w'=>w'.cell? ⟨Pb,0,none⟩=some (i64 (x:Int))∧w'.cell? ⟨Pb,1,none⟩=some (i64 (y:Int))) (fun w'=>True) (fun i=>false) (by kernel_rfl) (⟨p0,p1⟩) (trivial) (fun ay ah=> ?_);refine aF 0 ay ah ?_;refine aF 1 ay ah ?_;refine aF 2 ay ah ?_ (v:= .int .i64 (x:Int));refine aF 3 ay ah ?_;refine aF 4 ay ah ?_;refine aF 5 ay ah ?_ (v:= .int .i64 (y:Int));refine aF 6 ay ah ?_ (v:=i64 (gy:Int));refine aF 7 ay ah ?_ (v:=i64 (gy:Int));refine aF 8 ay ah ?_;refine fp 9 rfl (fun Kc hK=> ?_);go_simp;refine hK.o _ _ (⟨s0,s1⟩) (trivial) (fun ay ah=> ?_);clear hK Kc;try simp only [sS]
         refine aF 10 ay ah ?_;refine fp 11 rfl (fun Kc hK=> ?_);go_simp;refine hK.o _ _ (⟨z0,z1⟩) (trivial) (fun ay ah=> ?_);clear hK Kc;try simp only [sS]
         refine aD (by kernel_rfl) ?_ _;clear ay ah
         have I_:Hid (jU ((W2.setCell ⟨L,x,none⟩ (i64 (gy:Int))).setCell ⟨L,y,none⟩ (i64 (gy:Int))) L (eJ g (x,y)) n):=by
          show jU _ _ _ _;have h5:=(HT.o.set x gy).set y gy;have e5:eJ g (x,y)=gT (gT g x gy) y gy:=by unfold eJ;rw [Gz.o,GA.o,HM.o]
          rw [e5];exact h5
         have I':Hid (Ext V ((W2.setCell ⟨L,x,none⟩ (i64 (gy:Int))).setCell ⟨L,y,none⟩ (i64 (gy:Int)))):=(ez.o.setCell Bp.o _).setCell Bp.o _;have qX:=uk.o;rw [Gz.o,GA.o,I9.o]at qX;have qX:=ae qX;clear p0 p1 l0 l1 s0 s1 z0 z1 vy fx fy nx ny;go_wp2_with fail
         exact ⟨⟨i+1,eJ g (x,y),true,by omega,I_.o,I'.o.drew.drew,qX.o,rfl,by go_num⟩,by simp only [intOf];omega⟩
        ·have tt: ¬((gy:Int)<(gx:Int)):=by omega
         have nx:((gx:Int) !=(gx:Int))=false:=by simp
         have ny:((gy:Int) !=(gx:Int))=false:=by simp;omega
         have HM:Hid (min gx gy=gx):=by(show _=_;omega)
         have I9:Hid ((false||(gx !=min gx gy)||(gy !=min gx gy))=false):=by(show _=_;rw [HM.o];simp;omega)
         clear hw;go_wp2_with fail
         refine aL (fun w'=>w'.cell? ⟨Pb,0,none⟩=some (i64 (x:Int))∧w'.cell? ⟨Pb,1,none⟩=some (i64 (y:Int))∧w'.cell? ⟨L,x,none⟩=some (i64 (gx:Int))∧w'.cell? ⟨L,y,none⟩=some (i64 (gy:Int))) (fun w'=>True) (fun i=>false) (by kernel_rfl) (⟨p0,p1,l0,l1⟩) (trivial) (fun ay ah=> ?_);refine aF 0 ay ah ?_;refine aF 1 ay ah ?_;refine aF 2 ay ah ?_ (v:= .int .i64 (x:Int));refine aF 3 ay ah ?_;refine aF 4 ay ah ?_ (v:=i64 (gx:Int));refine aF 5 ay ah ?_;refine aF 6 ay ah ?_;refine aF 7 ay ah ?_ (v:= .int .i64 (y:Int));refine aF 8 ay ah ?_;refine aF 9 ay ah ?_ (v:=i64 (gy:Int));refine aF 10 ay ah ?_ (v:=i64 (gx:Int)) (hy:=by rintro w ⟨e0,e1,e2,e3⟩;(go_simp<;>omega));refine aF 11 ay ah ?_ (v:=i64 (gx:Int));refine aD (by kernel_rfl) ?_ _;clear ay ah;clear tt;have T1:=HT.o.set x gx;have l0:W2.drew.cell? ⟨L,x,none⟩=some (i64 (gx:Int)):=l0;have fx:W2.frozen? ⟨L,x,none⟩=false:=(HT.o.cell x hx).2;have fy:(W2.setCell ⟨L,x,none⟩ (i64 (gx:Int))).frozen? ⟨L,y,none⟩=false:=(T1.cell y hy).2;have vy:(W2.setCell ⟨L,x,none⟩ (i64 (gx:Int))).cell? ⟨L,y,none⟩=some (i64 ((gT g x gx y:Nat):Int)):=(T1.cell y hy).1;have s0:(W2.setCell ⟨L,x,none⟩ (i64 (gx:Int))).cell? ⟨Pb,0,none⟩=some (i64 (x:Int)):=by rw [World.cell?_setCell_far _ _ _ _ uJ];exact p0
         have s1:(W2.setCell ⟨L,x,none⟩ (i64 (gx:Int))).cell? ⟨Pb,1,none⟩=some (i64 (y:Int)):=by rw [World.cell?_setCell_far _ _ _ _ uJ];exact p1
         have z0:((W2.setCell ⟨L,x,none⟩ (i64 (gx:Int))).setCell ⟨L,y,none⟩ (i64 (gx:Int))).cell? ⟨Pb,0,none⟩=some (i64 (x:Int)):=by rw [World.cell?_setCell_far _ _ _ _ uJ];exact s0
         have z1:((W2.setCell ⟨L,x,none⟩ (i64 (gx:Int))).setCell ⟨L,y,none⟩ (i64 (gx:Int))).cell? ⟨Pb,1,none⟩=some (i64 (y:Int)):=by rw [World.cell?_setCell_far _ _ _ _ uJ];exact s1
         clear T1;go_wp2_with fail
         refine aL (fun w'=>w'.cell? ⟨Pb,0,none⟩=some (i64 (x:Int))∧w'.cell? ⟨Pb,1,none⟩=some (i64 (y:Int))) (fun w'=>True) (fun i=>false) (by kernel_rfl) (⟨p0,p1⟩) (trivial) (fun ay ah=> ?_);refine aF 0 ay ah ?_;refine aF 1 ay ah ?_;refine aF 2 ay ah ?_ (v:= .int .i64 (x:Int));refine aF 3 ay ah ?_;refine aF 4 ay ah ?_;refine aF 5 ay ah ?_ (v:= .int .i64 (y:Int));refine aF 6 ay ah ?_ (v:=i64 (gx:Int));refine aF 7 ay ah ?_ (v:=i64 (gx:Int));refine aF 8 ay ah ?_;refine fp 9 rfl (fun Kc hK=> ?_);go_simp;refine hK.o _ _ (⟨s0,s1⟩) (trivial) (fun ay ah=> ?_);clear hK Kc;try simp only [sS]
         refine aF 10 ay ah ?_;refine fp 11 rfl (fun Kc hK=> ?_);go_simp;refine hK.o _ _ (⟨z0,z1⟩) (trivial) (fun ay ah=> ?_);clear hK Kc;try simp only [sS]
         refine aD (by kernel_rfl) ?_ _;clear ay ah
         have I_:Hid (jU ((W2.setCell ⟨L,x,none⟩ (i64 (gx:Int))).setCell ⟨L,y,none⟩ (i64 (gx:Int))) L (eJ g (x,y)) n):=by
          show jU _ _ _ _;have h5:=(HT.o.set x gx).set y gx;have e5:eJ g (x,y)=gT (gT g x gx) y gx:=by unfold eJ;rw [Gz.o,GA.o,HM.o]
          rw [e5];exact h5
         have I':Hid (Ext V ((W2.setCell ⟨L,x,none⟩ (i64 (gx:Int))).setCell ⟨L,y,none⟩ (i64 (gx:Int)))):=(ez.o.setCell Bp.o _).setCell Bp.o _;have qX:=uk.o;rw [Gz.o,GA.o,I9.o]at qX;have qX:=ae qX;clear p0 p1 l0 l1 s0 s1 z0 z1 vy fx fy nx ny;go_wp2_with fail
         exact ⟨⟨i+1,eJ g (x,y),false,by omega,I_.o,I'.o.drew.drew,qX.o,rfl,by go_num⟩,by simp only [intOf];omega⟩
        ·have tt: ¬((gy:Int)<(gx:Int)):=by omega
         have nx:((gx:Int) !=(gx:Int))=false:=by simp
         have ny:((gy:Int) !=(gx:Int))=true:=by simp;omega
         have HM:Hid (min gx gy=gx):=by(show _=_;omega)
         have I9:Hid ((false||(gx !=min gx gy)||(gy !=min gx gy))=true):=by(show _=_;rw [HM.o];simp;omega)
         clear hw;go_wp2_with fail
         refine aL (fun w'=>w'.cell? ⟨Pb,0,none⟩=some (i64 (x:Int))∧w'.cell? ⟨Pb,1,none⟩=some (i64 (y:Int))∧w'.cell? ⟨L,x,none⟩=some (i64 (gx:Int))∧w'.cell? ⟨L,y,none⟩=some (i64 (gy:Int))) (fun w'=>True) (fun i=>false) (by kernel_rfl) (⟨p0,p1,l0,l1⟩) (trivial) (fun ay ah=> ?_);refine aF 0 ay ah ?_;refine aF 1 ay ah ?_;refine aF 2 ay ah ?_ (v:= .int .i64 (x:Int));refine aF 3 ay ah ?_;refine aF 4 ay ah ?_ (v:=i64 (gx:Int));refine aF 5 ay ah ?_;refine aF 6 ay ah ?_;refine aF 7 ay ah ?_ (v:= .int .i64 (y:Int));refine aF 8 ay ah ?_;refine aF 9 ay ah ?_ (v:=i64 (gy:Int));refine aF 10 ay ah ?_ (v:=i64 (gx:Int)) (hy:=by rintro w ⟨e0,e1,e2,e3⟩;(go_simp<;>omega));refine aF 11 ay ah ?_ (v:=i64 (gx:Int));refine aD (by kernel_rfl) ?_ _;clear ay ah;clear tt;have T1:=HT.o.set x gx;have l0:W2.drew.cell? ⟨L,x,none⟩=some (i64 (gx:Int)):=l0;have fx:W2.frozen? ⟨L,x,none⟩=false:=(HT.o.cell x hx).2;have fy:(W2.setCell ⟨L,x,none⟩ (i64 (gx:Int))).frozen? ⟨L,y,none⟩=false:=(T1.cell y hy).2;have vy:(W2.setCell ⟨L,x,none⟩ (i64 (gx:Int))).cell? ⟨L,y,none⟩=some (i64 ((gT g x gx y:Nat):Int)):=(T1.cell y hy).1;have s0:(W2.setCell ⟨L,x,none⟩ (i64 (gx:Int))).cell? ⟨Pb,0,none⟩=some (i64 (x:Int)):=by rw [World.cell?_setCell_far _ _ _ _ uJ];exact p0
         have s1:(W2.setCell ⟨L,x,none⟩ (i64 (gx:Int))).cell? ⟨Pb,1,none⟩=some (i64 (y:Int)):=by rw [World.cell?_setCell_far _ _ _ _ uJ];exact p1
         have z0:((W2.setCell ⟨L,x,none⟩ (i64 (gx:Int))).setCell ⟨L,y,none⟩ (i64 (gx:Int))).cell? ⟨Pb,0,none⟩=some (i64 (x:Int)):=by rw [World.cell?_setCell_far _ _ _ _ uJ];exact s0
         have z1:((W2.setCell ⟨L,x,none⟩ (i64 (gx:Int))).setCell ⟨L,y,none⟩ (i64 (gx:Int))).cell? ⟨Pb,1,none⟩=some (i64 (y:Int)):=by rw [World.cell?_setCell_far _ _ _ _ uJ];exact s1
         clear T1;go_wp2_with fail
         refine aL (fun w'=>w'.cell? ⟨Pb,0,none⟩=some (i64 (x:Int))∧w'.cell? ⟨Pb,1,none⟩=some (i64 (y:Int))) (fun w'=>True) (fun i=>false) (by kernel_rfl) (⟨p0,p1⟩) (trivial) (fun ay ah=> ?_);refine aF 0 ay ah ?_;refine aF 1 ay ah ?_;refine aF 2 ay ah ?_ (v:= .int .i64 (x:Int));refine aF 3 ay ah ?_;refine aF 4 ay ah ?_;refine aF 5 ay ah ?_ (v:= .int .i64 (y:Int));refine aF 6 ay ah ?_ (v:=i64 (gx:Int));refine aF 7 ay ah ?_ (v:=i64 (gx:Int));refine aF 8 ay ah ?_;refine fp 9 rfl (fun Kc hK=> ?_);go_simp;refine hK.o _ _ (⟨s0,s1⟩) (trivial) (fun ay ah=> ?_);clear hK Kc;try simp only [sS]
         refine aF 10 ay ah ?_;refine fp 11 rfl (fun Kc hK=> ?_);go_simp;refine hK.o _ _ (⟨z0,z1⟩) (trivial) (fun ay ah=> ?_);clear hK Kc;try simp only [sS]
         refine aD (by kernel_rfl) ?_ _;clear ay ah
         have I_:Hid (jU ((W2.setCell ⟨L,x,none⟩ (i64 (gx:Int))).setCell ⟨L,y,none⟩ (i64 (gx:Int))) L (eJ g (x,y)) n):=by
          show jU _ _ _ _;have h5:=(HT.o.set x gx).set y gx;have e5:eJ g (x,y)=gT (gT g x gx) y gx:=by unfold eJ;rw [Gz.o,GA.o,HM.o]
          rw [e5];exact h5
         have I':Hid (Ext V ((W2.setCell ⟨L,x,none⟩ (i64 (gx:Int))).setCell ⟨L,y,none⟩ (i64 (gx:Int)))):=(ez.o.setCell Bp.o _).setCell Bp.o _;have qX:=uk.o;rw [Gz.o,GA.o,I9.o]at qX;have qX:=ae qX;clear p0 p1 l0 l1 s0 s1 z0 z1 vy fx fy nx ny;go_wp2_with fail
         exact ⟨⟨i+1,eJ g (x,y),true,by omega,I_.o,I'.o.drew.drew,qX.o,rfl,by go_num⟩,by simp only [intOf];omega⟩
      ·obtain rfl:i=E.length:=by omega
       have hr:=HG.o;have HR:=ae (And.intro hT (And.intro hX hI));clear hT hX hI;go_wp2_with fail
       go_roundg (gk-1)
       case measure=>omega
       case rel=>
        refine ⟨g,ag,fun e=> ?_,HR.o.1,HR.o.2.1,HR.o.2.2.least,fun e=> ?_,rfl⟩
        ·have:=HR.o.2.2.yes e;omega
        ·have:=HR.o.2.2.no e;rw [List.take_length]at this;exact this
end Go.Proofs.YtkpngkdgphojlaaGreat
