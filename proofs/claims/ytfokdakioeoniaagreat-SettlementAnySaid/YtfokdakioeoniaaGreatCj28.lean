/- Texts of the proof. -/
import Derived.Test.YtfokdakioeoniaaGreatCj27
set_option linter.all false
set_option maxHeartbeats 4000000
set_option maxRecDepth 100000
namespace Go.Proofs.YtfokdakioeoniaaGreat
open Go.Proofs.Tryz
open Go.RowKit
def ot (w:World) (B:Nat) (f:Nat->Nat) (n:Nat):Prop:=aY w B 3 ((List.range n).map λb=>i64 ((f b:Nat):Int))
def nH (f:Nat->Nat) (k v:Nat) (b:Nat):Nat:=if b=k then v else f b
theorem ot.cell {w:World} {B:Nat} {f:Nat->Nat} {n:Nat} (h:ot w B f n) (k:Nat) (hk:k<n):w.cell? ⟨B,k,none⟩=some (i64 ((f k:Nat):Int))/\w.frozen? ⟨B,k,none⟩=false:=
 ⟨by rw [aY.cell h k];simp [hk],aY.frozen h k⟩
theorem ot.ext {w w':World} {B:Nat} {f:Nat->Nat} {n:Nat} (h:ot w B f n) (e:Ext w w'):ot w' B f n:=aY.ext h e
theorem ot.lt {w:World} {B:Nat} {f:Nat->Nat} {n:Nat} (h:ot w B f n):B<w.heap.size:=aY.lt h
theorem ot.congr {w:World} {B:Nat} {f g:Nat->Nat} {n:Nat} (h:ot w B f n) (e: ∀b,b<n->f b=g b):ot w B g n:=by
 unfold ot at*
 have:((List.range n).map λb=>i64 ((g b:Nat):Int))=(List.range n).map λb=>i64 ((f b:Nat):Int):=by
  apply List.map_congr_left;intro b hb;rw [e b (List.mem_range.1 hb)]
 rw [this];exact h
theorem ot.set {w:World} {B:Nat} {f:Nat->Nat} {n:Nat} (h:ot w B f n) (k v:Nat):ot (w.setCell ⟨B,k,none⟩ (i64 (v:Int))) B (nH f k v) n:=by
 unfold ot at*;have h5:=aY.set h k (i64 (v:Int))
 have:((List.range n).map λb=>i64 ((f b:Nat):Int)).set k (i64 (v:Int))=(List.range n).map λb=>i64 ((nH f k v b:Nat):Int):=by
  apply List.ext_getElem
  .simp
  .intro i h1 h2
   rw [List.getElem_set];simp only [List.getElem_map,List.getElem_range];unfold nH;by_cases hik:k=i
   .subst hik;simp
   .rw [if_neg hik,if_neg (λe=>hik e.symm)]
 rw [this]at h5;exact h5
theorem ot.zero {w:World} {B:Nat} {n:Nat} (h:aY w B 3 (List.replicate n (.int .i64 0))):ot w B (λb=>if b<0 then b else 0) n:=by
 unfold ot
 have:((List.range n).map λb=>i64 (((if b<0 then b else 0:Nat):Nat):Int))=List.replicate n (.int .i64 0):=by
  apply List.ext_getElem
  .simp
  .intro i h1 h2;simp
 rw [this];exact h
theorem ot.next {w:World} {B n k:Nat} (h:ot w B (λb=>if b<k then b else 0) n):ot (w.setCell ⟨B,k,none⟩ (i64 (k:Int))) B (λb=>if b<k+1 then b else 0) n:=
 (h.set k k).congr λb _=>by
   unfold nH;by_cases e:b=k
   .subst e;simp
   .rw [if_neg e]
    show(if b<k then b else 0)=(if b<k+1 then b else 0);by_cases e2:b<k
    .rw [if_pos e2,if_pos ae]
    .rw [if_neg e2,if_neg ae]
theorem ot.full {w:World} {B n:Nat} (h:ot w B (λb=>if b<n then b else 0) n):ot w B (λb=>b) n:=h.congr λb hb=>by simp [hb]
def sumTo (f:Nat->Nat):Nat->Nat
 |0=>0
 |n+1=>sumTo f n+f n
theorem ve (f:Nat->Nat) (k v:Nat): ∀n,n<=k->sumTo (nH f k v) n=sumTo f n
 |0,_=>rfl
 |n+1,h=>by
  have:nH f k v n=f n:=by unfold nH;rw [if_neg ae]
  simp only [sumTo,ve f k v n ae,this]
theorem sumTo_upd (f:Nat->Nat) (k v:Nat): ∀n,k<n->sumTo (nH f k v) n+f k=sumTo f n+v
 |0,h=>absurd h (Nat.not_lt_zero _)
 |n+1,h=>by
  by_cases e:k=n
  .subst e
   have:nH f k v k=v:=by unfold nH;rw [if_pos rfl]
   simp only [sumTo,ve f k v k cG,this];omega
  .have ih:=sumTo_upd f k v n ae
   have:nH f k v n=f n:=by unfold nH;rw [if_neg (λh=>e h.symm)]
   simp only [sumTo,this];omega
def ou (f:Nat->Nat) (p:Nat×Nat):Nat->Nat:=nH (nH f p.1 (min (f p.1) (f p.2))) p.2 (min (f p.1) (f p.2))
theorem F6 {n:Nat} {E:List (Nat×Nat)} {f:Nat->Nat} (h:mh n E f) {p:Nat×Nat} (hp:p∈E) (h1:p.1<n) (h2:p.2<n):mh n E (ou f p):=by
 have l1:=h.le p.1 h1;have l2:=h.le p.2 h2;have e:kx E p.1 p.2:= .I4 hp
 have cm:kx E p.1 (min (f p.1) (f p.2)):=by
  by_cases q:f p.1<=f p.2
  .rw [Nat.min_eq_left q];exact h.conn p.1 h1
  .rw [Nat.min_eq_right ae];exact e.trans (h.conn p.2 h2)
 constructor
 .intro b hb
  have:=h.le b hb;unfold ou nH;by_cases q2:b=p.2
  .rw [if_pos q2];omega
  .rw [if_neg q2]
   by_cases q1:b=p.1
   .rw [if_pos q1];omega
   .rw [if_neg q1];exact this
 .intro b hb
  unfold ou nH;by_cases q2:b=p.2
  .rw [if_pos q2,q2];exact e.symm.trans cm
  .rw [if_neg q2]
   by_cases q1:b=p.1
   .rw [if_pos q1,q1];exact cm
   .rw [if_neg q1];exact h.conn b hb
theorem Mf {n:Nat} {f:Nat->Nat} {p:Nat×Nat} (h1:p.1<n) (h2:p.2<n):sumTo (ou f p) n<=sumTo f n/\(f p.1≠f p.2->sumTo (ou f p) n<sumTo f n):=by
 unfold ou;obtain ⟨m,hm⟩: ∃m,m=min (f p.1) (f p.2):=⟨_,rfl⟩;rw [<-hm];have a:=sumTo_upd f p.1 m n h1;have b:=sumTo_upd (nH f p.1 m) p.2 m n h2;have c:nH f p.1 m p.2=if p.2=p.1 then m else f p.2:=rfl
 rw [c]at b;by_cases q:p.2=p.1
 .have e:f p.2=f p.1:=by rw [q]
  rw [if_pos q]at b;omega
 .rw [if_neg q]at b
  omega
theorem Ac {f:Nat->Nat} {p:Nat×Nat} (h:f p.1=f p.2) (b:Nat):ou f p b=f b:=by
 unfold ou nH;rw [h,Nat.min_self];by_cases q2:b=p.2
 .rw [if_pos q2,q2]
 .rw [if_neg q2]
  by_cases q1:b=p.1
  .rw [if_pos q1,q1,h]
  .rw [if_neg q1]
theorem mh.congr {n:Nat} {E:List (Nat×Nat)} {f g:Nat->Nat} (h:mh n E f) (e: ∀b,b<n->f b=g b):mh n E g:=
 ⟨λb hb=>by rw [<-e b hb];exact h.le b hb,λb hb=>by rw [<-e b hb];exact h.conn b hb⟩
theorem mh.start (n:Nat) (E:List (Nat×Nat)):mh n E (λb=>b):=⟨λ_ _=>cG,λ_ _=> .refl _⟩
structure xy (n:Nat) (E:List (Nat×Nat)) (f:Nat->Nat) (i:Nat) (g:Nat->Nat) (ag:Bool):Prop where
 least:mh n E g
 sum:sumTo g n<=sumTo f n
 yes:ag=true->sumTo g n<sumTo f n
 no:ag=false-> ∀p∈E.take i,g p.1=g p.2
theorem xy.start {n:Nat} {E:List (Nat×Nat)} {f:Nat->Nat} (h:mh n E f):xy n E f 0 f false:=⟨h,cG,(λe=>by cases e),(λ_ p hp=>by simp at hp)⟩
theorem xy.step {n:Nat} {E:List (Nat×Nat)} {f g:Nat->Nat} {i:Nat} {ag:Bool} (h:xy n E f i g ag) (hi:i<E.length) (h1:E[i].1<n) (h2:E[i].2<n):
 xy n E f (i+1) (ou g E[i]) (ag||(g E[i].1 !=min (g E[i].1) (g E[i].2))||(g E[i].2 !=min (g E[i].1) (g E[i].2))):=by
 have hs:=Mf (f:=g) h1 h2;refine ⟨F6 h.least (List.getElem_mem hi) h1 h2,Nat.le_trans hs.1 h.sum,λe=> ?_,λe=> ?_⟩
 .by_cases q:g E[i].1=g E[i].2
  .rw [q]at e
   simp at e;exact Nat.lt_of_le_of_lt hs.1 (h.yes e)
  .exact Nat.lt_of_lt_of_le (hs.2 q) h.sum
 .simp at e
  obtain ⟨⟨e1,e2⟩,e3⟩:=e;have q:g E[i].1=g E[i].2:=ae;intro p hp;rw [Ac q,Ac q];rw [List.take_succ_eq_append_getElem hi,List.mem_append]at hp;rcases hp with hp|hp
  .exact h.no e1 p hp
  .rw [List.mem_singleton]at hp;rw [hp];exact q
def gb (E:List (Nat×Nat)):List (List Value):=E.map λp=> [i64 ((p.1:Nat):Int),i64 ((p.2:Nat):Int)]
theorem f_ (E:List (Nat×Nat)):(gb E).length=E.length:=by simp [gb]
theorem xA {w:World} {a:Option Addr} {c:Nat} {E:List (Nat×Nat)} (h:di w 2 a c (gb E)) (i:Nat) (hi:i<E.length): ∃b o,a=some ⟨b,o,none⟩/\w.cell? ⟨b,o+i*2,none⟩=some (i64 ((E[i].1:Nat):Int))/\w.cell? ⟨b,o+i*2+1,none⟩=some (i64 ((E[i].2:Nat):Int)):=by
 obtain ⟨b,o,ha,hc⟩:=h.cell i (by rw [f_];exact hi);have e:(gb E)[i]'(by rw [f_];exact hi)= [i64 ((E[i].1:Nat):Int),i64 ((E[i].2:Nat):Int)]:=by simp [gb]
 simp only [e]at hc;exact ⟨b,o,ha,hc 0 aX,hc 1 aX⟩
theorem Kn (a b:Nat):((a:Int) !=(b:Int))=(a !=b):=by
 by_cases h:a=b
 .subst h;simp
 .rw [bne_iff_ne.2 h];exact bne_iff_ne.2 (λe=>h (Int.ofNat.inj e))
theorem xD (V:World) (n:Nat) (a:Option Addr) (c:Nat) (E:List (Nat×Nat)) (hn:n<=1000000) (hE:E.length<=1000000) (hP:di V 2 a c (gb E)) (hb: ∀p∈E,p.1<n/\p.2<n):
 Calls prog 213 #[.int .i64 (n:Int),.slice a E.length c] V λe w'=> ∃b f,e= .returned (.slice (some ⟨b,0,none⟩) n n)/\ot w' b f n/\Ext V w'/\V.heap.size<=b/\mh n E f/\ ∀p∈E,f p.1=f p.2:=by
 have hle:=hP.le;have eI:=hP.cap
 rw [f_]at hle;have HP:=af hP;have qI:=af hb
 clear hP hb;go_enter func213,ntmps213
 go_wp2_with (at_make;refine bU _ rfl _ _ 22 rfl 3 (.int .i64 0) 8 underlying22 Tryz.info_int rfl _ _ n rfl rfl rfl rfl ae ae ?_;intro w1 kR hx1 hz1)
 obtain ⟨L,hL⟩: ∃L,L=V.heap.size:=⟨_,rfl⟩;rw [<-hL]at kR⊢;have U':Hid (V.heap.size<=L):=by show _<=_;omega
 have Rn:=af (ot.zero kR.o);have jZ:=af hx1
 clear kR hx1 hz1 hL;go_loopw [6] (λii wr=> ∃k:Nat,k<=n/\ot wr L (λb=>if b<k then b else 0) n/\Ext V wr/\ii= .int .i64 k) (λii _=>n-(intOf ii).toNat)
 case atStart=>exact ⟨0,bm,Rn.o,jZ.o,rfl⟩
 case round=>
  obtain ⟨k,hk,hT,hX,rfl⟩:=hrel;clear Rn jZ;by_cases hlt:k<n
  .obtain ⟨c0,f0⟩:=hT.cell k hlt
   have Bw:=af hT.next;have kz:=af (hX.setCell (p:=⟨L,k,none⟩) U'.o (i64 (k:Int)))
   have b0:(0:Int)<=(k:Int):=ae;have b1:(k:Int)<(n:Int):=ae;clear hT hX;go_wp2
   exact ⟨⟨k+1,ae,Bw.o,kz.o,bq⟩,bz⟩
  .obtain rfl:n=k:=ae
   have Bw:=af hT.full;have kz:=af hX
   clear hT hX;go_wp2_with fail
   go_loopg [7] (sumTo (λb=>b) n+1) (λg aa wl=> ∃(f:Nat->Nat) (ag:Bool),(ag=true->sumTo f n+1<=g)/\ot wl L f n/\Ext V wl/\mh n E f/\(ag=false-> ∀p∈E,f p.1=f p.2)/\aa= .bool ag)
   case atStart=>exact ⟨λb=>b,true,λ_=>cG,Bw.o,kz.o,mh.start n E,(λe=>by cases e),rfl⟩
   case round=>
    obtain ⟨f,ag,hg,hT,hX,Wh,hno,rfl⟩:=hrel;clear Bw kz;cases ag with
    |false=>
     have HR:=af (And.intro hT (And.intro hX (And.intro Wh (hno rfl))));clear hT hX Wh hno hg;go_wp2
     go_ret;exact ⟨L,f,rfl,HR.o.1,HR.o.2.1,U'.o,HR.o.2.2.1,HR.o.2.2.2⟩
    |true=>
     have hg1:=hg rfl;have Bw:=af hT;have kz:=af hX;have HL2:=af Wh
     have HG:=af hg1;clear hT hX Wh hno hg hg1;go_wp2
     go_loopw [7,25] (λaa ii wl=> ∃(i:Nat) (g:Nat->Nat) (ag:Bool),i<=E.length/\ot wl L g n/\Ext V wl/\xy n E f i g ag/\aa= .bool ag/\ii= .int .i64 i) (λ_ ii _=>E.length-(intOf ii).toNat)
     case atStart=>exact ⟨0,f,false,bm,Bw.o,kz.o,xy.start HL2.o,rfl,rfl⟩
     case round=>
      obtain ⟨i,g,ag,hi,hT,hX,hI,rfl,rfl⟩:=hrel;clear Bw kz;by_cases hlt:i<E.length
      .obtain ⟨b,o,ha,r0,r1⟩:=xA ((HP.o.ext hX)) i hlt
       obtain ⟨hx,hy⟩:=qI.o E[i] (List.getElem_mem hlt);have Hz:=af (hI.step hlt hx hy);obtain ⟨⟨x,y⟩,qH⟩: ∃p,p=E[i]:=⟨_,rfl⟩;rw [<-qH]at r0 r1 hx hy Hz;simp only at r0 r1 hx hy;obtain ⟨gx,hgx⟩: ∃gx,gx=g x:=⟨_,rfl⟩;obtain ⟨gy,hgy⟩: ∃gy,gy=g y:=⟨_,rfl⟩;have HGX:Hid (g x=gx):=hgx.symm;have HGY:Hid (g y=gy):=hgy.symm;have Hz:Hid (xy n E f (i+1) (ou g (x,y)) (ag||(g x !=min (g x) (g y))||(g y !=min (g x) (g y)))):=Hz.o;have Tf:=af hT;have Mg:=af hX;have FZ:=af ha
       have mn:(0:Int)<=(i:Int):=ae;have mq:(i:Int)<(E.length:Int):=ae;have bx0:(0:Int)<=(x:Int):=ae;have bx1:(x:Int)<(n:Int):=ae;have WR:(0:Int)<=(y:Int):=ae;have by1:(y:Int)<(n:Int):=ae;clear hT hX hI qH hgx hgy ha;rw [FZ.o];go_upto_region 12 with fail
       obtain ⟨W2,hW2,x2,Z2,A2⟩:=bS wr 239 [i64 (x:Int),i64 (y:Int)];rw [show wr.alloc (.cells #[i64 (x:Int),i64 (y:Int)] 239)=W2 from hW2.symm];clear hW2;obtain ⟨Pb,hPb⟩: ∃Pb,Pb=wr.heap.size:=⟨_,rfl⟩;rw [<-hPb]at A2⊢;have hPL:L≠Pb:=dB Tf.o.lt;have HT:=af (Tf.o.ext x2);have kz:=af (Mg.o.trans x2)
       have p0:W2.cell? ⟨Pb,0,none⟩=some (i64 (x:Int)):=(A2.cell 0).trans rfl;have p1:W2.cell? ⟨Pb,1,none⟩=some (i64 (y:Int)):=(A2.cell 1).trans rfl;have l0:W2.cell? ⟨L,x,none⟩=some (i64 (gx:Int)):=by rw [<-HGX.o];exact (HT.o.cell x hx).1
       have l1:W2.cell? ⟨L,y,none⟩=some (i64 (gy:Int)):=by rw [<-HGY.o];exact (HT.o.cell y hy).1
       clear hPb Z2 A2 r0 r1 x2 Tf Mg;have KP:=λY (e:Ext W2 Y)=>And.intro (aB e p0) (And.intro (aB e p1) (And.intro (aB e l0) (aB e l1)));obtain ⟨m,HM⟩: ∃m,Hid (min gx gy=m):=⟨_,rfl⟩;go_upto_region 12 with fail
       go_cut [10] (λv wx=>v=i64 (m:Int)/\Ext W2 wx)
       case first=>
        as_aux_lemma=>
         rcases (show(gy<gx/\m=gy)\/(¬gy<gx/\m=gx) by have:=HM.o;omega)with⟨hw,rfl⟩|⟨hw,rfl⟩
         .have tt:(m:Int)<(gx:Int):=ae
          clear hw;refine wG (λw=>Ext W2 w) (Ext.refl W2).drew λs=> ?_;refine wV 0 s ?_;refine wV 1 s ?_;refine wV 2 s ?_;refine wV 3 s ?_;refine wV 4 s ?_;refine wV 5 s ?_;refine wV 6 s ?_;refine wV 7 s ?_;refine wV 8 s ?_;refine wV 9 s ?_;refine wV 10 s ?_ (v:=i64 (m:Int)) (hy:=by intro w e;go_simp<;>omega);refine wV 11 s ?_;refine wD ?_;go_wp2
          go_meet
          exact ⟨rfl,s⟩
         .have tt: ¬((gy:Int)<(m:Int)):=ae
          clear hw;refine wG (λw=>Ext W2 w) (Ext.refl W2).drew λs=> ?_;refine wV 0 s ?_;refine wV 1 s ?_;refine wV 2 s ?_;refine wV 3 s ?_;refine wV 4 s ?_;refine wV 5 s ?_;refine wV 6 s ?_;refine wV 7 s ?_;refine wV 8 s ?_;refine wV 9 s ?_;refine wV 10 s ?_ (v:=i64 (m:Int)) (hy:=by intro w e;go_simp<;>omega);refine wV 11 s ?_;refine wD ?_;go_wp2
          go_meet
          exact ⟨rfl,s⟩
       case rest=>
        obtain ⟨rfl,s⟩:=hcut;replace HT:=af (HT.o.ext s);replace kz:=af (kz.o.trans s)
        have p0:=aB s p0;have p1:=aB s p1;have l0:=aB s l0;have l1:=aB s l1
        clear KP s;generalize wc=W3 at*;have nx:((gx:Int) !=(m:Int))=(gx !=m):=Kn gx m;have ny:((gy:Int) !=(m:Int))=(gy !=m):=Kn gy m;have dY:Hid ((ag||(gx !=min gx gy)||(gy !=min gx gy))=(ag||(gx !=m)||(gy !=m))):=by(show _=_;rw [HM.o])
        generalize (gx !=m)=bx at*;generalize (gy !=m)=bt at*;obtain ⟨ax,HAX⟩: ∃ax,Hid ((ag||bx||bt)=ax):=⟨_,rfl⟩;go_upto_region 13 with fail
        go_cut [7] (λv wx=>v= .bool ax/\wx=W3)
        case first=>
         as_aux_lemma=>
          obtain rfl:=HAX.o;cases ag<;>cases bx<;>cases bt
          all_goals go_wp2_with fail
          all_goals go_meet
          all_goals exact ⟨rfl,rfl⟩
        case rest=>
        obtain ⟨rfl,hwc⟩:=hcut;subst hwc;generalize wc=W3 at*;have T1:=HT.o.set x m;have fx:W3.frozen? ⟨L,x,none⟩=false:=(HT.o.cell x hx).2;have fy:(W3.setCell ⟨L,x,none⟩ (i64 (m:Int))).frozen? ⟨L,y,none⟩=false:=(T1.cell y hy).2;have vy:(W3.setCell ⟨L,x,none⟩ (i64 (m:Int))).cell? ⟨L,y,none⟩=some (i64 ((nH g x m y:Nat):Int)):=(T1.cell y hy).1;have s0:(W3.setCell ⟨L,x,none⟩ (i64 (m:Int))).cell? ⟨Pb,0,none⟩=some (i64 (x:Int)):=by rw [World.cell?_setCell_far _ _ _ _ hPL];exact p0
        have s1:(W3.setCell ⟨L,x,none⟩ (i64 (m:Int))).cell? ⟨Pb,1,none⟩=some (i64 (y:Int)):=by rw [World.cell?_setCell_far _ _ _ _ hPL];exact p1
        have z0:((W3.setCell ⟨L,x,none⟩ (i64 (m:Int))).setCell ⟨L,y,none⟩ (i64 (m:Int))).cell? ⟨Pb,0,none⟩=some (i64 (x:Int)):=by rw [World.cell?_setCell_far _ _ _ _ hPL];exact s0
        have z1:((W3.setCell ⟨L,x,none⟩ (i64 (m:Int))).setCell ⟨L,y,none⟩ (i64 (m:Int))).cell? ⟨Pb,1,none⟩=some (i64 (y:Int)):=by rw [World.cell?_setCell_far _ _ _ _ hPL];exact s1
        clear T1 nx ny;go_wp2_with fail
        refine eo (λw'=>w'.cell? ⟨Pb,0,none⟩=some (i64 (x:Int))/\w'.cell? ⟨Pb,1,none⟩=some (i64 (y:Int))) (λw'=>True) (λi=>false) aw (⟨p0,p1⟩) (trivial) (λdA aL=> ?_);refine eG 0 dA aL ?_;refine eG 1 dA aL ?_;refine eG 2 dA aL ?_ (v:= .int .i64 (x:Int));refine eG 3 dA aL ?_;refine eG 4 dA aL ?_;refine eG 5 dA aL ?_ (v:= .int .i64 (y:Int));refine eG 6 dA aL ?_ (v:=i64 (m:Int));refine eG 7 dA aL ?_ (v:=i64 (m:Int));refine eG 8 dA aL ?_;refine Nj 9 rfl (λKc hK=> ?_);go_simp;refine hK.o _ _ (⟨s0,s1⟩) (trivial) (λdA aL=> ?_);clear hK Kc;try simp only [sS]
        refine eG 10 dA aL ?_;refine Nj 11 rfl (λKc hK=> ?_);go_simp;refine hK.o _ _ (⟨z0,z1⟩) (trivial) (λdA aL=> ?_);clear hK Kc;try simp only [sS]
        refine eh aw ?_ _;clear dA aL
        have HT':Hid (ot ((W3.setCell ⟨L,x,none⟩ (i64 (m:Int))).setCell ⟨L,y,none⟩ (i64 (m:Int))) L (ou g (x,y)) n):=by
         show ot _ _ _ _;have h5:=(HT.o.set x m).set y m;have e5:ou g (x,y)=nH (nH g x m) y m:=by unfold ou;rw [HGX.o,HGY.o,HM.o]
         rw [e5];exact h5
        have HX':Hid (Ext V ((W3.setCell ⟨L,x,none⟩ (i64 (m:Int))).setCell ⟨L,y,none⟩ (i64 (m:Int)))):=(kz.o.setCell U'.o _).setCell U'.o _;have HI':=Hz.o;rw [HGX.o,HGY.o,dY.o,HAX.o]at HI';have HI':=af HI';clear p0 p1 l0 l1 s0 s1 z0 z1 vy fx fy;go_wp2
        exact ⟨⟨i+1,ou g (x,y),ax,ae,HT'.o,HX'.o.drew,HI'.o,rfl,bq⟩,bz⟩
      .obtain rfl:i=E.length:=ae
       have hr:=HG.o;have HR:=af (And.intro hT (And.intro hX hI));clear hT hX hI;go_wp2_with fail
       go_roundg (gk-1)
       case measure=>omega
       case rel=>
        refine ⟨g,ag,λe=> ?_,HR.o.1,HR.o.2.1,HR.o.2.2.least,λe=> ?_,rfl⟩
        .have:=HR.o.2.2.yes e;omega
        .have:=HR.o.2.2.no e;rw [List.take_length]at this;exact this
open Classical in
noncomputable def DL (E:List (Nat×Nat)) (b:Nat):Bool:=decide (∀k,k<b-> ¬kx E k b)
open Classical in
theorem Ad (E:List (Nat×Nat)) (b:Nat):DL E b=true↔ ∀k,k<b-> ¬kx E k b:=by unfold DL;exact decide_eq_true_iff
noncomputable def comps (n:Nat) (E:List (Nat×Nat)):Nat:=(List.range n).countP (DL E)
theorem nG.comps {n:Nat} {E:List (Nat×Nat)} {f:Nat->Nat} (h:nG n E f):cls f n=Go.Proofs.YtfokdakioeoniaaGreat.comps n E:=by
 unfold cls Go.Proofs.YtfokdakioeoniaaGreat.comps;apply List.countP_congr;intro b hb;have X_:=List.mem_range.1 hb;rw [iT];rw [Ad];constructor
 .intro hf k hk hc;exact hf k hk ((h k b ae X_).2 hc)
 .intro hc k hk hf;exact hc k hk ((h k b ae X_).1 hf)
theorem I6 {n:Nat} {E F:List (Nat×Nat)} (h: ∀p∈E,p∈F):comps n F<=comps n E:=by
 unfold comps;apply List.countP_mono_left;intro b _ hb;rw [Ad]at*;intro k hk hc;exact hb k hk (hc.mono h)
theorem F8 (n:Nat) (E:List (Nat×Nat)):comps n E<=n:=by
 unfold comps;have:=List.countP_le_length (p:=DL E) (l:=List.range n);rw [List.length_range]at this;exact this
def lU (f:Nat->Nat) (n:Nat):List Int:=(List.range n).map λb=>((f b:Nat):Int)
theorem jA (f:Nat->Nat) (n:Nat):(lU f n).length=n:=by simp [lU]
theorem I7 (f:Nat->Nat) (n b:Nat) (h:b<n):kE (lU f n) b=((f b:Nat):Int):=by
 unfold kE lU;simp [h]
theorem ot.ints {w:World} {B:Nat} {f:Nat->Nat} {n:Nat} (h:ot w B f n) (hn:n<=1000000) (hf: ∀b,b<n->f b<=n):bV w (some ⟨B,0,none⟩) n (lU f n):=
 ⟨by rw [jA];exact cG,ae,λi hi=>by
   have hi':i<n:=by rw [jA]at hi;exact hi
   refine ⟨B,0,rfl,?_⟩;rw [Nat.zero_add,(h.cell i hi').1];simp [lU],λi hi=>by
   have hi':i<n:=by rw [jA]at hi;exact hi
   have:=hf i hi';simp [lU];omega⟩
theorem F9 {n:Nat} {E:List (Nat×Nat)} {f:Nat->Nat} (h:mh n E f) (he: ∀p∈E,f p.1=f p.2):Bx (lU f n) n=comps n E:=by
 rw [<-(h.tells he).comps];unfold Bx cls;apply List.countP_congr;intro b hb;have X_:=List.mem_range.1 hb;rw [I7 f n b X_,<-h.first he b X_];simp only [beq_iff_eq];omega
def mi (E:List (Nat×Nat)) (gone:List Int):Nat->List (Nat×Nat)
 |0=> []
 |n+1=>if hasB gone n=true then mi E gone n else mi E gone n++ [E.getD n (0,0)]
theorem vY (E:List (Nat×Nat)) (gone:List Int): ∀n,n<=E.length-> ∀p∈mi E gone n,p∈E
 |0,_,p,h=>by simp [mi]at h
 |n+1,hn,p,h=>by
  unfold mi at h;split at h
  .exact vY E gone n ae p h
  .rcases List.mem_append.1 h with h|h
   .exact vY E gone n ae p h
   .rw [List.mem_singleton]at h
    subst h;rw [List.getD_eq_getElem?_getD,List.getElem?_eq_getElem ae];exact List.getElem_mem _
theorem pV (E:List (Nat×Nat)) (gone:List Int): ∀n,(mi E gone n).length<=n
 |0=>cG
 |n+1=>by
  have:=pV E gone n;unfold mi;split
  .omega
  .rw [List.length_append];simp;exact this
theorem BA (E:List (Nat×Nat)) (p:Nat×Nat):gb (E++ [p])=gb E++ [[i64 ((p.1:Nat):Int),i64 ((p.2:Nat):Int)]]:=by simp [gb]
noncomputable def O3 (n:Nat) (E:List (Nat×Nat)) (gone:List Int):Bool:=decide (comps n E<comps n (mi E gone E.length))
theorem BC (V:World) (n:Nat) (a:Option Addr) (c:Nat) (E:List (Nat×Nat)) (b:Option Addr) (cb:Nat) (gone:List Int) (hn:n<=1000000) (hE:E.length<=1000000) (hP:di V 2 a c (gb E)) (hb: ∀p∈E,p.1<n/\p.2<n) (hG:bV V b cb gone):
 Calls prog 125 #[.int .i64 (n:Int),.slice a E.length c,.slice b gone.length cb] V λe w'=>e= .returned (.bool (O3 n E gone))/\Ext V w':=by
 have hle:=hP.le;have eI:=hP.cap
 rw [f_]at hle;have HP:=af hP;have qI:=af hb;have HG:=af hG
 clear hP hb hG;go_enter func125,ntmps125
 go_wp2
 go_loopw [7,8] (λv ii wr=> ∃i:Nat,i<=E.length/\cj wr V.heap.size 239 2 v (gb (mi E gone i))/\Ext V wr/\ii= .int .i64 i) (λ_ ii _=>E.length-(intOf ii).toNat)
 case atStart=>exact ⟨0,bm,cj.nil _ _ _ _,ah,rfl⟩
 case round=>
  obtain ⟨i,hi,hown,hX,rfl⟩:=hrel;have HO:=af hown;clear hown;by_cases hlt:i<E.length
  .obtain ⟨pb,po,ha,r0,r1⟩:=xA (HP.o.ext hX) i hlt
   have o0:=af (yM wr b cb gone (i:Int) (HG.o.ext hX))
   have HST:Hid (mi E gone (i+1)=if hasB gone i=true then mi E gone i else mi E gone i++ [E[i]]):=by
    show _=_;have:E.getD i (0,0)=E[i]:=by rw [List.getD_eq_getElem?_getD,List.getElem?_eq_getElem hlt];rfl
    rw [<-this];rfl
   have Ya:=af (pV E gone i);generalize mi E gone i=rs at*;obtain ⟨⟨x,y⟩,qH⟩: ∃p,p=E[i]:=⟨_,rfl⟩;rw [<-qH]at r0 r1 HST;simp only at r0 r1;have mn:(0:Int)<=(i:Int):=ae;have mq:(i:Int)<(E.length:Int):=ae;have HE:=af hX;have Rs:=hX.size
   have FZ:=af ha;clear hX qH ha;rw [FZ.o];rcases Bool.eq_false_or_eq_true (hasB gone i)with hq|hq
   .rw [hq]at o0 HST
    clear hq;go_wp2_with fail
    refine o0.o.mono ?_;rintro e w1 ⟨rfl,kR⟩;rw [kR];clear kR
    go_wp2
    exact ⟨⟨i+1,ae,by rw [HST.o];simpa using HO.o,HE.o,bq⟩,bz⟩
   .rw [hq]at o0 HST
    clear hq
    have HOW:Hid (wr.ownsRow V.heap.size 239 2 u7 rs.length (gb rs).flatten):=by
     have h5:=HO.o.own;rw [f_]at h5;exact h5
    go_wp2_with fail
    refine o0.o.mono ?_;rintro e w1 ⟨rfl,kR⟩;rw [kR];clear kR
    go_wp2_with (at_builtin;refine fC _ rfl (.tmp 19) (.tmp 24) 170 rfl V.heap.size 239 (.agg #[i64 0,i64 0]) 2 16 underlying170 Tryz.info_pair rfl ai u7 rs.length (gb rs).flatten rfl ?c1 (some ⟨wr.heap.size,0,none⟩) 1 1 [i64 (x:Int),i64 (y:Int)] rfl rfl ?c2 ?c3 ?c4 ?c5 ai ?c6 ?_;rotate_right;intro v1 w5 ho he hb hz hv)
    case c1=>exact fg HOW.o (ah.alloc _)
    case c2=>exact λ_=>⟨_,rfl,kY wr 239 [i64 (x:Int),i64 (y:Int)]⟩
    case c3=>intro u hu;simp only [List.mem_cons,List.not_mem_nil,or_false]at hu;rcases hu with rfl|rfl<;>rfl
    case c4=>intro e;cases e
    case c5=>have:=Ya.o;omega
    case c6=>have:=Rs;simp;omega
    have x5:Ext V w5:=he.o V (HE.o.alloc _) cG;have yO:=HO.o.snoc (w':=w5) (v':=v1) (r:= [i64 (x:Int),i64 (y:Int)]) rfl (by rw [f_];exact ho.o);rw [<-BA rs (x,y)]at yO;exact ⟨⟨i+1,ae,by rw [HST.o];simpa using yO,x5,bq⟩,bz⟩
  .obtain rfl:i=E.length:=ae
   obtain ⟨ra,rc,rfl,hS,-⟩:=HO.o.recs ai;rw [f_];have oN:=vY E gone E.length cG;have EG:=pV E gone E.length;have acf:Hid (O3 n E gone=decide (comps n E<comps n (mi E gone E.length))):=rfl;generalize mi E gone E.length=R at*;have hbR: ∀p∈R,p.1<n/\p.2<n:=λp hp=>qI.o p (oN p hp);have U9:=af (xD wr n ra rc R hn ae hS hbR);have HX:=af hX;clear hS oN EG hbR HO hX;go_wp2_with fail
   refine U9.o.mono ?_;rintro e w1 ⟨B1,f1,rfl,hT1,x1,-,hL1,Yb⟩;have zm:=Cv w1 _ n (lU f1 n) (hT1.ints hn (λb hb=>Nat.le_trans (hL1.le b hb) ae));rw [jA,F9 hL1 Yb]at zm;have zm:=af zm;have jZ:=af (HX.o.trans x1);have UW:=F8 n R;generalize comps n R=k1 at*;clear hT1 x1 hL1 Yb U9;go_wp2_with fail
   refine zm.o.mono ?_;rintro e w2 ⟨rfl,hw2⟩;rw [hw2];clear hw2
   have dK:=af (xD w1 n a c E hn hE (HP.o.ext jZ.o) qI.o);go_wp2_with fail
   refine dK.o.mono ?_;rintro e w3 ⟨B3,f3,rfl,hT3,x3,-,hL3,hE3⟩;have HC3:=Cv w3 _ n (lU f3 n) (hT3.ints hn (λb hb=>Nat.le_trans (hL3.le b hb) ae));rw [jA,F9 hL3 hE3]at HC3;have HC3:=af HC3;have EF:=af (jZ.o.trans x3);have hk2:=F8 n E;generalize comps n E=k2 at*;clear hT3 x3 hL3 hE3 dK;go_wp2_with fail
   refine HC3.o.mono ?_;rintro e w4 ⟨rfl,hw4⟩;rw [hw4];clear hw4
   go_wp2
   go_ret;exact ⟨by rw [acf.o];rfl,EF.o⟩
