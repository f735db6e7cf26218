/- Texts of the proof. -/
import Derived.Laws.Tables
import Derived.Test.YtkpngkdgphojlaaGreatCd14
set_option linter.all false
set_option maxHeartbeats 2000000
set_option maxRecDepth 100000
namespace Go.Proofs.YtkpngkdgphojlaaGreat
open Go.Proofs.Tryz
open Go.RowKit
def aY (w:World) (T:Nat) (a:Option Addr) (c:Nat) (l:List Int):Prop:= ∃i:Nat,i≤l.length∧aJ w T 135 [.slice a l.length c,i64 i]
theorem aY.ext {w w':World} {T:Nat} {a:Option Addr} {c:Nat} {l:List Int} (h:aY w T a c l) (e:Ext w w'):aY w' T a c l:=by
 obtain ⟨i,h1,h2⟩:=h;exact ⟨i,h1,h2.ext e⟩
theorem aY.lt {w:World} {T:Nat} {a:Option Addr} {c:Nat} {l:List Int} (h:aY w T a c l):T<w.heap.size:=by
 obtain ⟨i,h1,h2⟩:=h;exact h2.lt
theorem aY.keep {w w':World} {T:Nat} {a:Option Addr} {c:Nat} {l:List Int} (h:aY w T a c l) (e:w'.heap[T]?=w.heap[T]?):aY w' T a c l:=by
 obtain ⟨i,h1,h2⟩:=h;exact ⟨i,h1,h2.keep e⟩
theorem aY.but {w w':World} {T K:Nat} {a:Option Addr} {c:Nat} {l:List Int} (h:aY w T a c l) (e:ar K w w') (hk:T≠K):aY w' T a c l:=h.keep (e.block T h.lt hk)
theorem Ii (V:World) (a:Option Addr) (c:Nat) (l:List Int):
 Calls prog 30 #[.slice a l.length c] V fun e w'=>e= .returned (.pointer (some ⟨V.heap.size,0,none⟩))∧aY w' V.heap.size a c l∧Ext V w':=by
 go_enter func30,ntmps30
 go_wp2_with fail
 go_ret;exact ⟨rfl,⟨0,Nat.zero_le _,aJ.alloc V 135 [.slice a l.length c,i64 0]⟩,(Ext.refl V).alloc _⟩
def jX (V:World) (T:Nat) (a:Option Addr) (c:Nat) (l:List Int) (w':World):Prop:=aY w' T a c l∧ar T V w'
theorem p8 (w0 V:World) (T:Nat) (a:Option Addr) (c:Nat) (l:List Int) (n:Int) (hK:w0.heap.size≤T) (hV:Ext w0 V) (hl:aD w0 a c l) (hT:aY V T a c l) (hn:0<n) (CE:n<1000000):
 Calls prog 31 #[.pointer (some ⟨T,0,none⟩),i64 n] V fun e w'=> ∃v:Int,e= .returned (i64 v)∧(0≤v∧v<n)∧jX V T a c l w':=by
 have hle:=hl.le;have dy:=hl.cap
 obtain ⟨i,hi,hA⟩:=hT;have c0:V.cell? ⟨T,0,none⟩=some (.slice a l.length c):=(hA.cell 0).trans rfl;have c1:V.cell? ⟨T,1,none⟩=some (i64 (i:Int)):=(hA.cell 1).trans rfl;have f1:V.frozen? ⟨T,1,none⟩=false:=hA.frozen 1;have HA:=ae hA;have HN:=ae (And.intro hn CE)
 by_cases hlt:i<l.length
 ·have ht:decide ((l.length:Int)≤(i:Int))=false:=by simp;omega
  obtain ⟨ab,ao,ha,i0⟩:=(hl.ext hV).cell i hlt;have hrg:=(hl.ext hV).Nf i hlt
  have hTb:ab≠T:=by
   obtain ⟨b3,o3,h3,q0⟩:=hl.cell i hlt;rw [ha]at h3;cases h3
   have:=bm q0;simp only at this;omega
  obtain ⟨v,hv⟩: ∃v,v=l[i]:=⟨_,rfl⟩;rw [←hv]at i0 hrg;have tB:Hid (aJ ((V.setCell ⟨T,1,none⟩ (i64 ((i+1:Nat):Int))).drew) T 135 [.slice a l.length c,i64 ((i+1:Nat):Int)]):=(HA.o.set 1 (i64 ((i+1:Nat):Int))).ext (Ext.refl _).drew;have fK:IntKind.i64.wrap ((i:Int)+1)=((i+1:Nat):Int):=by rw [IntKind.wrap_i64];omega
  have hw2:IntKind.i64.wrap (((i+1:Nat):Int)-1)=(i:Int):=by rw [IntKind.wrap_i64];omega
  have hw3:IntKind.i64.wrap (i:Int)=(i:Int):=by rw [IntKind.wrap_i64];omega
  have j0:(V.setCell ⟨T,1,none⟩ (i64 ((i+1:Nat):Int))).drew.cell? ⟨ab,ao+i,none⟩=some (i64 v):=by
   have h5:(V.setCell ⟨T,1,none⟩ (i64 ((i+1:Nat):Int))).cell? ⟨ab,ao+i,none⟩=some (i64 v):=by rw [World.cell?_setCell_far _ _ _ _ (fun e=>hTb e.symm)];exact i0
   exact h5
  have d0:(V.setCell ⟨T,1,none⟩ (i64 ((i+1:Nat):Int))).drew.cell? ⟨T,0,none⟩=some (.slice a l.length c):=(tB.o.cell 0).trans rfl;have d1:(V.setCell ⟨T,1,none⟩ (i64 ((i+1:Nat):Int))).drew.cell? ⟨T,1,none⟩=some (i64 ((i+1:Nat):Int)):=(tB.o.cell 1).trans rfl;have De:=ae (fun U=>uq U v n hrg.1 (by omega) hn CE);have GV:=ae (ur v n hn);have f_:(0:Int)≤(i:Int):=by omega
  have fU:(i:Int)<(l.length:Int):=by omega
  have HX:Hid (ar T V ((V.setCell ⟨T,1,none⟩ (i64 ((i+1:Nat):Int))).drew.drew)):=((ar.refl T V).gD.trans ((Ext.refl _).drew.drew.but T));subst ha;clear hA hl hV hK hn CE hv hrg i0;go_enter func31,ntmps31
  go_wp2_with fail
  refine aB (fun w'=>w'.cell? ⟨T,0,none⟩=some (.slice (some ⟨ab,ao,none⟩) l.length c)∧w'.cell? ⟨T,1,none⟩=some (i64 (i:Int))) (fun w'=>True) (fun i=>false) (by kernel_rfl) (⟨c0,c1⟩) (trivial) (fun aq ah=> ?_);refine ay 0 aq ah ?_;refine ay 1 aq ah ?_;refine ay 2 aq ah ?_;refine ay 3 aq ah ?_ (v:=i64 (i:Int));refine ay 4 aq ah ?_;refine ay 5 aq ah ?_;refine ay 6 aq ah ?_;refine ay 7 aq ah ?_;refine ay 8 aq ah ?_ (v:= .int .i64 (l.length:Int));refine ay 9 aq ah ?_;refine ax (by kernel_rfl) ?_ _;clear aq ah;clear ht;go_wp2_with fail
  refine aB (fun w'=>w'.cell? ⟨T,0,none⟩=some (.slice (some ⟨ab,ao,none⟩) l.length c)∧w'.cell? ⟨T,1,none⟩=some (i64 ((i+1:Nat):Int))∧w'.cell? ⟨ab,ao+i,none⟩=some (i64 v)) (fun w'=>True) (fun i=>false) (by kernel_rfl) (⟨d0,d1,j0⟩) (trivial) (fun aq ah=> ?_);refine ay 0 aq ah ?_;refine ay 1 aq ah ?_;refine ay 2 aq ah ?_;refine ay 3 aq ah ?_;refine ay 4 aq ah ?_;refine ay 5 aq ah ?_;refine ay 6 aq ah ?_;refine ay 7 aq ah ?_ (v:=i64 ((i+1:Nat):Int));refine ay 8 aq ah ?_ (v:= .int .i64 (i:Int));refine ay 9 aq ah ?_;refine ay 10 aq ah ?_ (v:=i64 v);refine ay 11 aq ah ?_ (v:=i64 n);refine dX 12 rfl (fun Kc hK=> ?_);go_simp;refine (De.o _).mono ?_;rintro e z1 ⟨rfl,rfl⟩;refine hK.o _ _ (⟨d0,d1,j0⟩) (trivial) (fun aq ah=> ?_);clear hK Kc;try simp only [sS]
  refine ay 13 aq ah ?_ (v:=i64 (CD v n));refine ax (by kernel_rfl) ?_ _;clear aq ah;go_wp2_with fail
  go_ret;exact ⟨CD v n,rfl,GV.o,⟨i+1,by omega,tB.o.ext (Ext.refl _).drew⟩,HX.o⟩
 ·obtain rfl:i=l.length:=by omega
  have ht:decide ((l.length:Int)≤(l.length:Int))=true:=by simp
  clear hA hl hV hK hn CE;go_enter func31,ntmps31
  go_wp2_with fail
  refine aB (fun w'=>w'.cell? ⟨T,0,none⟩=some (.slice a l.length c)∧w'.cell? ⟨T,1,none⟩=some (i64 (l.length:Int))) (fun w'=>True) (fun i=>false) (by kernel_rfl) (⟨c0,c1⟩) (trivial) (fun aq ah=> ?_);refine ay 0 aq ah ?_;refine ay 1 aq ah ?_;refine ay 2 aq ah ?_;refine ay 3 aq ah ?_ (v:=i64 (l.length:Int));refine ay 4 aq ah ?_;refine ay 5 aq ah ?_;refine ay 6 aq ah ?_;refine ay 7 aq ah ?_;refine ay 8 aq ah ?_ (v:= .int .i64 (l.length:Int));refine ay 9 aq ah ?_;refine ax (by kernel_rfl) ?_ _;clear aq ah;go_wp2_with fail
  go_ret;exact ⟨0,rfl,⟨Int.le_refl _,HN.o.1⟩,⟨l.length,Nat.le_refl _,HA.o.ext (Ext.refl _).drew⟩,(Ext.refl V).drew.but T⟩
theorem ki (w0 V:World) (T:Nat) (a:Option Addr) (c:Nat) (l:List Int) (n:Nat) (m:Int) (hK:w0.heap.size≤T) (hV:Ext w0 V) (hl:aD w0 a c l) (hT:aY V T a c l) (hn:n≤1000) (hm:0<m) (qM:m<1000000):
 Calls prog 32 #[.pointer (some ⟨T,0,none⟩),.int .i64 (n:Int),i64 m] V fun e w'=> ∃b cap hs,e= .returned (.slice b n cap)∧hs.length=n∧aD w' b cap hs∧(∀x∈hs,0≤x∧x<m)∧Fr V.heap.size b∧jX V T a c l w':=by
 have fL:=ae (fun U (hx:ar T V U) (hU:aY U T a c l)=>p8 w0 U T a c l m hK (hx.ext hV hK) hl hU hm qM);have HT:=ae hT;have fM:=ae hT.lt;have Ij:=ae qM;clear hl hV hK hT hm qM;go_enter func32,ntmps32
 go_wp2_with fail
 go_loopw [7,8] (fun v ii wr=> ∃(i:Nat) (hs:List Int),i≤n∧hs.length=i∧(∀x∈hs,0≤x∧x<m)∧aN wr V.heap.size 3 1 v (dH hs)∧jX V T a c l wr∧ii= .int .i64 i) (fun _ ii _=>n-(intOf ii).toNat)
 case atStart=>exact ⟨0,[],Nat.zero_le _,rfl,fun x hx=>absurd hx (by simp),aN.nil _ _ _ _,⟨HT.o,ar.refl _ _⟩,rfl⟩
 case round=>
  obtain ⟨i,hs,hi,iG,hrg,hown,⟨hT,hx⟩,rfl⟩:=hrel;clear HT;by_cases hlt:i<n
  ·have fU:(i:Int)<(n:Int):=by omega
   have HN:=ae (fL.o wr hx hT);have HO:=ae hown;have HX:=ae hx;have Wc:=ae hrg;have wA:=ae iG
   clear hown hx hT hrg iG;go_wp2_with fail
   refine HN.o.mono ?_;rintro e W1 ⟨v,rfl,hv,Ee,hx1⟩;have PM:=ae hv;have lW:=ae Ee;have fJ:=ae (HX.o.trans hx1)
   have K1:Hid (aN W1 V.heap.size 3 1 u7 (dH hs)):=HO.o.but hx1 fM.o
   have HOW:Hid (W1.ownsRow V.heap.size 3 1 u7 hs.length (dH hs).flatten):=by
    have h5:=K1.o.own;rw [eM]at h5;exact h5
   have hsz:=fJ.o.size;clear hv Ee hx1 HN;go_wp2_with (at_builtin;refine aW _ rfl (.tmp 14) (.tmp 18) 22 rfl V.heap.size 3 (.int .i64 0) 1 8 underlying22 Tryz.info_int rfl (by decide) u7 hs.length (dH hs).flatten rfl ?c1 (some ⟨W1.heap.size,0,none⟩) 1 1 [i64 v] rfl rfl ?c2 ?c3 ?c4 ?c5 (by decide) ?c6 ?_;rotate_right;intro v1 w5 ho he hb hz hv)
   case c1=>exact bq HOW.o ((Ext.refl _).alloc _)
   case c2=>exact fun _=>⟨_,rfl,cu W1 3 [i64 v]⟩
   case c3=>intro u hu;rw [List.mem_singleton]at hu;subst hu;rfl
   case c4=>intro e;cases e
   case c5=>have:=wA.o;omega
   case c6=>simp;omega
   have kd:=HOW.o.lt;have zU:(W1.alloc (.cells #[i64 v] 3)).heap.size=W1.heap.size+1:=by simp
   have QT:=fM.o;have xT:aY w5 T a c l:=aY.keep (lW.o.ext ((Ext.refl W1).alloc _)) (hb.o T (by have:=lW.o.lt;omega) (fun e=>by have:=(kd T e.symm).1;omega));have xX:ar T V w5:=ar.append (fJ.o.alloc' _) (Nat.le_refl _) (fun k e=>(kd k e).1) he.o hb.o hz.o;have i5:=K1.o.snoc (w':=w5) (v':=v1) (r:= [i64 v]) rfl (by rw [eM];exact ho.o);rw [←pS]at i5;have HR:=ae (And.intro i5 (And.intro xT xX))
   have Mr:Hid (∀x∈hs++ [v],0≤x∧x<m):=fun x hx=>by
    rcases List.mem_append.1 hx with h|h
    ·exact Wc.o x h
    ·rw [List.mem_singleton]at h;rw [h];exact PM.o
   clear xT xX i5 zU kd ho he hb hz hv QT;exact ⟨⟨i+1,hs++ [v],by omega,by rw [List.length_append,wA.o];rfl,Mr.o,HR.o.1,HR.o.2,by go_num⟩,by simp only [intOf];omega⟩
  ·obtain rfl:i=n:=by omega
   obtain ⟨b,cap,rfl,hS,jU⟩:=hown.recs (by decide);rw [eM,iG];have HI:Hid (aD wr b cap hs):=aD.nk hS (fun z hz=>by have:=hrg z hz;have:=Ij.o;unfold bp;omega);have HR:=ae (And.intro iG (And.intro hrg (And.intro jU (And.intro hT hx))));clear hown hS jU hT hx hrg iG;go_wp2_with fail
   go_ret;exact ⟨b,cap,hs,rfl,HR.o.1,HI.o,HR.o.2.1,HR.o.2.2.1,HR.o.2.2.2⟩
theorem Es (w0 V:World) (T:Nat) (a:Option Addr) (c:Nat) (l:List Int) (n:Int) (hK:w0.heap.size≤T) (hV:Ext w0 V) (hl:aD w0 a c l) (hT:aY V T a c l) (hn:0<n) (CE:n<1000000):
 Calls prog 77 #[.pointer (some ⟨T,0,none⟩),i64 n] V fun e w'=> ∃b cap hs,e= .returned (.slice b hs.length cap)∧(hs.length≤1∧(hs= []→b=none))∧aD w' b cap hs∧(∀x∈hs,0≤x∧x<n)∧Fr V.heap.size b∧jX V T a c l w':=by
 have Kb:=ae (p8 w0 V T a c l 6 hK hV hl hT (by decide) (by decide));have GQ:=ae (fun U (hx:ar T V U) (hU:aY U T a c l)=>p8 w0 U T a c l n hK (hx.ext hV hK) hl hU hn CE);have HN:=ae CE;clear hK hV hl hT hn CE;go_enter func77,ntmps77
 go_wp2_with fail
 refine Kb.o.mono ?_;rintro e W1 ⟨v,rfl,hv,Ee,hx1⟩;have lW:=ae Ee;have fJ:=ae hx1
 have hsz:=hx1.size;clear Ee hx1 Kb;rcases Bool.eq_false_or_eq_true (v==5)with h5|h5
 ·have GQ:=ae (GQ.o W1 fJ.o lW.o)
  clear hv;go_wp2_with fail
  refine GQ.o.mono ?_;rintro e W2 ⟨x,rfl,ZK,QU,hx2⟩;have ZL:=ae ZK;have mX:=ae QU;have fg:=ae (fJ.o.trans hx2)
  have Wd:=Nat.le_trans hsz hx2.size;clear ZK QU hx2 hsz GQ;go_wp2_with fail
  go_ret;refine ⟨some ⟨W2.heap.size,0,none⟩,1,[x],rfl,⟨Nat.le_refl _,fun q=>absurd q (by simp)⟩,aD.one W2 x (by have:=ZL.o;have:=HN.o;unfold bp;omega),fun z hz=> ?_,Fr.some Wd,mX.o.ext ((Ext.refl W2).alloc _),fg.o.alloc' _⟩;rw [List.mem_singleton]at hz;rw [hz];exact ZL.o
 ·clear hv
  go_wp2_with fail
  go_ret;exact ⟨none,0,[],rfl,⟨Nat.zero_le _,fun _=>rfl⟩,⟨Nat.le_refl _,by decide,fun i hi=>absurd hi (Nat.not_lt_zero _),fun i hi=>absurd hi (Nat.not_lt_zero _)⟩,fun z hz=>absurd hz (by simp),Fr.none _,lW.o,fJ.o⟩
def FP:ByteArray:={data:= #[48,49,50,51,52,53,54,55,56,57,97,98,99,100,101,102]}
def aI (k:UInt8) (i:Nat):ByteArray:={data:= #[k]}++FP.extract i (i+1)
theorem tW (w:World) (k:UInt8) (i:Nat) (hi:i<16):
 Calls prog 33 #[.string {data:= #[k]},.int .i64 (i:Int)] w fun e w'=>e= .returned (.string (aI k i))∧w'=w:=by
 have h1:Int.tmod (i:Int) 16=(i:Int):=by rw [Int.tmod_eq_emod_of_nonneg (by omega)];omega
 have h2:IntKind.i64.wrap (i:Int)=(i:Int):=by rw [IntKind.wrap_i64];omega
 have h3:IntKind.i64.wrap ((i:Int)+1)=((i+1:Nat):Int):=by rw [IntKind.wrap_i64];omega
 go_enter func33,ntmps33
 go_wp2_with fail
 go_ret;exact ⟨rfl,rfl⟩
theorem nz (k:UInt8) (i:Nat) (hi:i<16):(aI k i).data= #[k,FP.data[i]!]:=by
 have h:i=0∨i=1∨i=2∨i=3∨i=4∨i=5∨i=6∨i=7∨i=8∨i=9∨i=10∨i=11∨i=12∨i=13∨i=14∨i=15:=by omega
 rcases h with rfl|rfl|rfl|rfl|rfl|rfl|rfl|rfl|rfl|rfl|rfl|rfl|rfl|rfl|rfl|rfl<;>rfl
theorem kA (k:UInt8) (i:Nat) (hi:i<16):(aI k i).size=2:=by
 show(aI k i).data.size=2;rw [nz k i hi];rfl
theorem ar.over {K R:Nat} {V W w':World} (h:ar K V W) (k:ar R W w') (hR:V.heap.size≤R):ar K V w':=
 ⟨k.os.trans h.os,k.tape.trans h.tape,k.output.trans h.output,Nat.le_trans h.drawn k.drawn,Nat.le_trans h.size k.size,fun x hx hK=>by
   have:=h.size;rw [k.block x (by omega) (by omega)];exact h.block x hx hK⟩
section
variable{P:Program}
theorem dM {ops:Array Oper} {rest:List Oper} {o:Oper} {a:Act} {w:World} {Q:Exit→Act→World→Prop} (hgd:o.guard=none) (ty:TypeId) (x y:Operand) (ho:o.op= .store ty x y)
 (R:Nat) (cs cs':List Value) (hA:aJ w R ty cs) (hx:a.eval x= .pointer (some ⟨R,0,none⟩)) (hy:a.eval y= .agg cs'.toArray) (hi:(P.info? ty).map (·.size)=some cs'.length) (hold:cs.length=cs'.length) (h1:cs'.all (·.oneCell')=true)
 (h: ∀w',aJ w' R ty cs'→ar R w w'→wpList P ops Q rest (a.put o.dst undef) w'):wpList P ops Q (o::rest) a w:=
 wpList_plain hgd fun K hK=>by
  have hr:=run_storeVar_row (P:=P) w R ty ty cs.toArray cs'.toArray hA (by simpa using hi) (by simpa using hold) (by simpa using h1);unfold Oper.wp execOp;simp only [ho,hx,hy,Instr.storeAt,Instr.sureAddr,Sem.run_bind,Sem.run_pure,Result.andThen_ok,hr];refine hK _ _ (h _ ?_ ?_)
  ·exact setRow_heap w R cs.toArray cs'.toArray ty (0,0) hA
  ·refine ⟨rfl,rfl,rfl,Nat.le_refl _,by simp [World.setRow],fun k hk hne=> ?_⟩
   simp [World.setRow,Array.getElem?_modify,Ne.symm hne]
end
structure o6 (x:aP) (i fr tb:Nat) (hours:Int):Prop where
 name:x.name=aI 108 i
 cU:x.cU=(fr:Int)
 j5:x.j5=(tb:Int)
 r:1≤x.rn∧x.rn≤4∧1≤x.rd∧x.rd≤2
 s0: -3≤x.se∧x.se≤0∧1≤x.vW∧x.vW≤2
 s1:0≤x.tj∧x.tj≤3∧x.yA=1
 cY:4≤x.cY∧x.cY≤43
 jS:x.cY≤x.jS∧x.jS≤62
 NB:x.away.length≤1∧(x.away= []→x.aa=none)
 away: ∀z∈x.away,0≤z∧z<hours
def kB:aP:=⟨{data:= #[]},0,0,0,0,0,0,0,0,0,0,none,0,[]⟩
def eW (w0 V:World) (T:Nat) (a:Option Addr) (c:Nat) (l:List Int):Prop:= ∀(U:World) (m:Int),ar T V U→aY U T a c l→0<m→m<1000000→Calls prog 31 #[.pointer (some ⟨T,0,none⟩),i64 m] U fun e w'=> ∃v:Int,e= .returned (i64 v)∧(0≤v∧v<m)∧jX U T a c l w'
theorem eW.of (w0 V:World) (T:Nat) (a:Option Addr) (c:Nat) (l:List Int) (hK:w0.heap.size≤T) (hV:Ext w0 V) (hl:aD w0 a c l):eW w0 V T a c l:=
 fun U m hx hU h1 h2=>p8 w0 U T a c l m hK (hx.ext hV hK) hl hU h1 h2
theorem Et (w0 V:World) (T:Nat) (a:Option Addr) (c:Nat) (l:List Int) (i fr tb:Nat) (hours:Int) (hK:w0.heap.size≤T) (hV:Ext w0 V) (hl:aD w0 a c l) (hT:aY V T a c l) (hi:i<16) (hh:0<hours) (Ik:hours<1000):
 Calls prog 34 #[.pointer (some ⟨T,0,none⟩),.int .i64 (i:Int),.int .i64 (fr:Int),.int .i64 (tb:Int),i64 hours] V fun e w'=> ∃x:aP,e= .returned (.agg x.cells.toArray)∧o6 x i fr tb hours∧aD w' x.aa x.ac x.away∧Fr V.heap.size x.aa∧jX V T a c l w':=by
 have fL:=ae (eW.of w0 V T a c l hK hV hl);have NC:=ae (fun U (hx:ar T V U) (hU:aY U T a c l)=>Es w0 U T a c l hours hK (hx.ext hV hK) hl hU hh (by omega));have CO:=ae (fun U=>tW U 108 i hi);have HT:=ae hT;have fM:=ae hT.lt;clear hK hV hl hT hi hh Ik;go_enter func34,ntmps34
 go_upto_region 1 with fail
 obtain ⟨W0,hW,x0,Z0,A0⟩:=aH V 78 kB.cells;rw [show V.alloc (.cells #[.string {data:= #[]},i64 0,i64 0,i64 0,i64 0,i64 0,i64 0,i64 0,i64 0,i64 0,i64 0,.slice none 0 0] 78)=W0 from hW.symm];obtain ⟨R,hR⟩: ∃R,R=V.heap.size:=⟨_,rfl⟩;rw [←hR]at A0⊢;have p9:R≠T:=by have:=fM.o;omega
 have GP:Hid (V.heap.size≤R):=by show _≤_;omega
 have HR:=ae A0;have HX:=ae (x0.but T);have HT:=ae (HT.o.ext x0)
 clear hW Z0 A0 hR x0;go_wp2_with fail
 refine (CO.o W0).mono ?_;rintro e w1 ⟨rfl,fK⟩;rw [fK];clear fK
 go_wp2_with fail
 refine (fL.o W0 4 HX.o HT.o (by decide) (by decide)).mono ?_;rintro e W1 ⟨v1,rfl,Eu,Ee,hx1⟩;have fJ:=ae (HX.o.trans hx1);go_wp2_with fail
 refine (fL.o W1 2 fJ.o Ee (by decide) (by decide)).mono ?_;rintro e W2 ⟨v2,rfl,hv2,QU,hx2⟩;have fg:=ae (fJ.o.trans hx2);go_wp2_with fail
 refine (fL.o W2 40 fg.o QU (by decide) (by decide)).mono ?_;rintro e W3 ⟨v3,rfl,hv3,AH,hx3⟩;have mS:=ae (fg.o.trans hx3);have sq:=ae (((HR.o.but hx1 p9).but hx2 p9).but hx3 p9);have K2:=ae AH;have q1:IntKind.i64.wrap (1+v1)=1+v1:=by rw [IntKind.wrap_i64];omega
 have q2:IntKind.i64.wrap (1+v2)=1+v2:=by rw [IntKind.wrap_i64];omega
 have q3:IntKind.i64.wrap (4+v3)=4+v3:=by rw [IntKind.wrap_i64];omega
 clear Ee QU AH hx1 hx2 hx3 fJ fg HX HT HR;obtain ⟨x1,hx1⟩: ∃x1:aP,x1=⟨aI 108 i,(fr:Int),(tb:Int),1+v1,1+v2,0,1,0,1,4+v3,0,none,0,[]⟩:=⟨_,rfl⟩
 have yL:Hid (x1.name=aI 108 i∧x1.cU=(fr:Int)∧x1.j5=(tb:Int)∧(1≤x1.rn∧x1.rn≤4∧1≤x1.rd∧x1.rd≤2)∧(x1.se=0∧x1.vW=1∧x1.tj=0∧x1.yA=1)∧(4≤x1.cY∧x1.cY≤43)∧x1.away= []∧x1.aa=none∧x1.ac=0):=by
  rw [hx1];exact ⟨rfl,rfl,rfl,⟨by simp only;omega,by simp only;omega,by simp only;omega,by simp only;omega⟩,⟨rfl,rfl,rfl,rfl⟩,⟨by simp only;omega,by simp only;omega⟩,rfl,rfl,rfl⟩
 clear Eu hv2 hv3;go_upto_region 2 with fail
 obtain ⟨W4,Ms,x4,Z4,A4⟩:=aH W3 78 x1.cells;rw [show W3.alloc (.cells #[.string (aI 108 i),i64 (fr:Int),i64 (tb:Int),i64 (1+v1),i64 (1+v2),i64 0,i64 1,i64 0,i64 1,i64 (4+v3),i64 0,.slice none 0 0] 78)=W4 from by rw [Ms,hx1];rfl];obtain ⟨X,hX⟩: ∃X,X=W3.heap.size:=⟨_,rfl⟩;rw [←hX]at A4⊢;have pz:X≠T:=by have:=K2.o.lt;omega
 have Ev:X≠R:=by have:=sq.o.lt;omega
 have GW:Hid (V.heap.size≤X):=by show _≤_;rw [hX];exact mS.o.size
 have zS:=ae A4;have qX:=ae (mS.o.trans (x4.but T));have ZM:=ae (K2.o.ext x4);have Uj:=ae (sq.o.ext x4)
 clear Ms hX Z4 A4 x4 hx1 q1 q2 q3 mS K2 sq CO;have c9:=zS.o.cl 9 (i64 x1.cY) rfl;refine aB (fun w'=>w'.cell? ⟨X,9,none⟩=some (i64 x1.cY)) (fun w'=>True) (fun i=>false) (by kernel_rfl) (c9) (trivial) (fun aq ah=> ?_);refine ay 0 aq ah ?_;refine ay 1 aq ah ?_ (v:=i64 x1.cY);refine ay 2 aq ah ?_;refine dX 3 rfl (fun Kc hK=> ?_);go_simp;refine (fL.o W4.drew 20 (qX.o.trans ((Ext.refl W4).drew.but T)) (ZM.o.ext (Ext.refl _).drew) (by decide) (by decide)).mono ?_;rintro e W5 ⟨v4,rfl,hv4,A_,eY⟩;refine hK.o _ _ (bL (aj (Ext.refl W4).drew c9) eY pz) (trivial) (fun aq ah=> ?_);clear hK Kc;try simp only [sS]
 have q4:IntKind.i64.wrap (x1.cY+v4)=x1.cY+v4:=by rw [IntKind.wrap_i64];have:=yL.o.2.2.2.2.2.1;omega
 refine ay 4 aq ah ?_ (v:=i64 (x1.cY+v4));refine ay 5 aq ah ?_;have Kh:W5.cell? ⟨X,10,none⟩=some (i64 x1.jS):=(((zS.o.ext (Ext.refl _).drew).but eY pz).cell 10).trans rfl;have f10:W5.frozen? ⟨X,10,none⟩=false:=((zS.o.ext (Ext.refl _).drew).but eY pz).frozen 10;have e9:(W5.setCell ⟨X,10,none⟩ (i64 (x1.cY+v4))).cell? ⟨X,9,none⟩=some (i64 x1.cY):=((((zS.o.ext (Ext.refl _).drew).but eY pz).set 10 (i64 (x1.cY+v4))).cell 9).trans rfl;refine dX 6 rfl (fun Kc hK=> ?_);go_simp;refine hK.o _ _ (e9) (trivial) (fun aq ah=> ?_);clear hK Kc;try simp only [sS]
 refine ax (by kernel_rfl) ?_ _;clear aq ah Kh f10 e9;have Mo:Hid (aJ (W5.setCell ⟨X,10,none⟩ (i64 (x1.cY+v4))) X 78 ({x1 with jS:=x1.cY+v4}:aP).cells):=((zS.o.ext (Ext.refl _).drew).but eY pz).set 10 (i64 (x1.cY+v4))
 have ZN:Hid (aY (W5.setCell ⟨X,10,none⟩ (i64 (x1.cY+v4))) T a c l):=by
  obtain ⟨j,hj,hA⟩:=A_;exact ⟨j,hj,hA.other _ _ pz⟩
 have wm:Hid (ar T V (W5.setCell ⟨X,10,none⟩ (i64 (x1.cY+v4)))):=((qX.o.trans ((Ext.refl W4).drew.but T)).trans eY).setCell (p:=⟨X,10,none⟩) GW.o _;have ZO:Hid (aJ (W5.setCell ⟨X,10,none⟩ (i64 (x1.cY+v4))) R 78 kB.cells):=((Uj.o.ext (Ext.refl _).drew).but eY p9).other _ _ Ev;obtain ⟨x2,hx2⟩: ∃x2:aP,x2={x1 with jS:=x1.cY+v4}:=⟨_,rfl⟩
 have wE:Hid (x2.name=aI 108 i∧x2.cU=(fr:Int)∧x2.j5=(tb:Int)∧(1≤x2.rn∧x2.rn≤4∧1≤x2.rd∧x2.rd≤2)∧(x2.se=0∧x2.vW=1∧x2.tj=0∧x2.yA=1)∧(4≤x2.cY∧x2.cY≤43)∧(x2.cY≤x2.jS∧x2.jS≤62)∧x2.away= []∧x2.aa=none∧x2.ac=0):=by
  obtain ⟨h1,h2,h3,h4,h5,h6,h7,h8,h9⟩:=yL.o;rw [hx2];exact ⟨h1,h2,h3,h4,h5,h6,⟨by simp only;omega,by simp only;omega⟩,h7,h8,h9⟩
 rw [←hx2]at Mo;clear hx2 hv4 q4 c9 A_ eY zS qX ZM Uj yL;generalize (W5.setCell ⟨X,10,none⟩ (i64 (x1.cY+v4)))=W6 at*;go_wp2_with fail
 refine (fL.o W6 5 wm.o ZN.o (by decide) (by decide)).mono ?_;rintro e W7 ⟨v5,rfl,hv5,zX,GS⟩;have Uk:=ae (Mo.o.but GS pz);have Ul:=ae (ZO.o.but GS p9);have Nz:=ae (wm.o.trans GS);have Um:=ae zX
 clear zX GS hv5 Mo ZO wm ZN;rcases Bool.eq_false_or_eq_true (v5==4)with h4|h4
 ·go_wp2_with fail
  refine (fL.o W7 4 Nz.o Um.o (by decide) (by decide)).mono ?_;rintro e W8 ⟨u1,rfl,hu1,Mt,jD⟩;have We:=ae (Nz.o.trans jD);go_wp2_with fail
  refine (fL.o W8 2 We.o Mt (by decide) (by decide)).mono ?_;rintro e W9 ⟨u2,rfl,QV,QX,yU⟩;have ND:=ae (We.o.trans yU);go_wp2_with fail
  refine (fL.o W9 4 ND.o QX (by decide) (by decide)).mono ?_;rintro e v_ ⟨u3,rfl,hu3,QY,ij⟩;have wN:=ae (ND.o.trans ij);have Df:=ae (((Uk.o.but jD pz).but yU pz).but ij pz);have QZ:=ae (((Ul.o.but jD p9).but yU p9).but ij p9);have q1:IntKind.i64.wrap (-u1)= -u1:=by rw [IntKind.wrap_i64];omega
  have q2:IntKind.i64.wrap (1+u2)=1+u2:=by rw [IntKind.wrap_i64];omega
  obtain ⟨-,-,-,-,-,c5,c6,c7,c8,-⟩:=aP.at Df.o;have f5:=Df.o.frozen 5;have f6:=Df.o.frozen 6;have f7:=Df.o.frozen 7;have f8:=Df.o.frozen 8
  have Q5:Hid (aJ ((((v_.setCell ⟨X,5,none⟩ (i64 (-u1))).setCell ⟨X,6,none⟩ (i64 (1+u2))).setCell ⟨X,7,none⟩ (i64 u3)).setCell ⟨X,8,none⟩ (i64 1)) X 78 ({x2 with se:= -u1,vW:=1+u2,tj:=u3,yA:=1}:aP).cells):=(((Df.o.set 5 (i64 (-u1))).set 6 (i64 (1+u2))).set 7 (i64 u3)).set 8 (i64 1)
  have Q6:Hid (aY ((((v_.setCell ⟨X,5,none⟩ (i64 (-u1))).setCell ⟨X,6,none⟩ (i64 (1+u2))).setCell ⟨X,7,none⟩ (i64 u3)).setCell ⟨X,8,none⟩ (i64 1)) T a c l):=by
   obtain ⟨j,hj,hA⟩:=QY;exact ⟨j,hj,(((hA.other _ _ pz).other _ _ pz).other _ _ pz).other _ _ pz⟩
  have Q8:Hid (ar T V ((((v_.setCell ⟨X,5,none⟩ (i64 (-u1))).setCell ⟨X,6,none⟩ (i64 (1+u2))).setCell ⟨X,7,none⟩ (i64 u3)).setCell ⟨X,8,none⟩ (i64 1))):=(((wN.o.setCell (p:=⟨X,5,none⟩) GW.o _).setCell (p:=⟨X,6,none⟩) GW.o _).setCell (p:=⟨X,7,none⟩) GW.o _).setCell (p:=⟨X,8,none⟩) GW.o _;have Q_:Hid (aJ ((((v_.setCell ⟨X,5,none⟩ (i64 (-u1))).setCell ⟨X,6,none⟩ (i64 (1+u2))).setCell ⟨X,7,none⟩ (i64 u3)).setCell ⟨X,8,none⟩ (i64 1)) R 78 kB.cells):=(((QZ.o.other _ _ Ev).other _ _ Ev).other _ _ Ev).other _ _ Ev;have HQ:Hid ((({x2 with se:= -u1,vW:=1+u2,tj:=u3,yA:=1}:aP).se= -u1)∧ -3≤ -u1∧ -u1≤0∧1≤1+u2∧1+u2≤2∧0≤u3∧u3≤3):=⟨rfl,by omega,by omega,by omega,by omega,by omega,by omega⟩;clear Mt QX QY jD yU ij hu1 QV hu3 Nz We ND wN Uk Df Ul QZ Um;go_upto_region 5 with fail
  clear c5 c6 c7 c8 f5 f6 f7 f8 q1 q2
  obtain ⟨x3,FQ,Ra,AH,Mu,Rb⟩: ∃x:aP,(x.name=aI 108 i∧x.cU=(fr:Int)∧x.j5=(tb:Int)∧(1≤x.rn∧x.rn≤4∧1≤x.rd∧x.rd≤2)∧(-3≤x.se∧x.se≤0∧1≤x.vW∧x.vW≤2∧0≤x.tj∧x.tj≤3∧x.yA=1)∧(4≤x.cY∧x.cY≤43)∧(x.cY≤x.jS∧x.jS≤62)∧x.away= []∧x.aa=none∧x.ac=0)∧aJ ((((v_.setCell ⟨X,5,none⟩ (i64 (-u1))).setCell ⟨X,6,none⟩ (i64 (1+u2))).setCell ⟨X,7,none⟩ (i64 u3)).setCell ⟨X,8,none⟩ (i64 1)) X 78 x.cells∧aY ((((v_.setCell ⟨X,5,none⟩ (i64 (-u1))).setCell ⟨X,6,none⟩ (i64 (1+u2))).setCell ⟨X,7,none⟩ (i64 u3)).setCell ⟨X,8,none⟩ (i64 1)) T a c l∧ar T V ((((v_.setCell ⟨X,5,none⟩ (i64 (-u1))).setCell ⟨X,6,none⟩ (i64 (1+u2))).setCell ⟨X,7,none⟩ (i64 u3)).setCell ⟨X,8,none⟩ (i64 1))∧aJ ((((v_.setCell ⟨X,5,none⟩ (i64 (-u1))).setCell ⟨X,6,none⟩ (i64 (1+u2))).setCell ⟨X,7,none⟩ (i64 u3)).setCell ⟨X,8,none⟩ (i64 1)) R 78 kB.cells:=by
   obtain ⟨h1,h2,h3,h4,h5,h6,h7,h8,h9,h10⟩:=wE.o;exact ⟨{x2 with se:= -u1,vW:=1+u2,tj:=u3,yA:=1},⟨h1,h2,h3,h4,⟨HQ.o.2.1,HQ.o.2.2.1,HQ.o.2.2.2.1,HQ.o.2.2.2.2.1,HQ.o.2.2.2.2.2.1,HQ.o.2.2.2.2.2.2,rfl⟩,h6,h7,h8,h9,h10⟩,Q5.o,Q6.o,Q8.o,Q_.o⟩
  clear Q5 Q6 Q8 Q_ HQ wE;generalize ((((v_.setCell ⟨X,5,none⟩ (i64 (-u1))).setCell ⟨X,6,none⟩ (i64 (1+u2))).setCell ⟨X,7,none⟩ (i64 u3)).setCell ⟨X,8,none⟩ (i64 1))=W7t at*;have yM:=ae FQ;have CV:=ae Ra;have K2:=ae AH;have mS:=ae Mu;have sq:=ae Rb
  clear FQ Ra AH Mu Rb;go_wp2_with fail
  refine (NC.o W7t mS.o K2.o).mono ?_;rintro e W8 ⟨wa,jK,hs,rfl,Il,hI,hrg,FR,Mt,jD⟩;have K3:=ae (CV.o.but jD pz);have NF:aJ (W8.setCell ⟨X,11,none⟩ (.slice wa hs.length jK)) X 78 ({x3 with aa:=wa,ac:=jK,away:=hs}:aP).cells:=K3.o.set 11 (.slice wa hs.length jK);have c11:=K3.o.cl 11 (.slice x3.aa x3.away.length x3.ac) rfl;have f11:=K3.o.frozen 11
  have Wh:Hid (aY (W8.setCell ⟨X,11,none⟩ (.slice wa hs.length jK)) T a c l):=by
   obtain ⟨j,hj,hA⟩:=Mt;exact ⟨j,hj,hA.other _ _ pz⟩
  have ND:Hid (ar T V (W8.setCell ⟨X,11,none⟩ (.slice wa hs.length jK))):=(mS.o.trans jD).setCell (p:=⟨X,11,none⟩) GW.o _;have Wi:Hid (aJ (W8.setCell ⟨X,11,none⟩ (.slice wa hs.length jK)) R 78 kB.cells):=(sq.o.but jD p9).other _ _ Ev;have PN:Hid (aD (W8.setCell ⟨X,11,none⟩ (.slice wa hs.length jK)) wa jK hs):=aD.dA hI ((ar.refl X W8).set rfl _) (fun p hp=>by have h1:=FR p hp;have h2:=CV.o.lt;omega);have FT:Hid (Fr V.heap.size wa):=FR.mono mS.o.size;have Wj:Hid (∀p,wa=some p→p.block≠R):=fun p hp=>by have h1:=FR p hp;have h2:=sq.o.lt;omega
  obtain ⟨x4,j8⟩: ∃x4:aP,x4={x3 with aa:=wa,ac:=jK,away:=hs}:=⟨_,rfl⟩;rw [←j8]at NF
  have uG:Hid (o6 x4 i fr tb hours∧x4.aa=wa∧x4.ac=jK∧x4.away=hs):=by
   obtain ⟨h1,h2,h3,h4,⟨Un,Uo,Up,Rc,Wk,Wl,Wm⟩,h6,h7,h8,h9,h10⟩:=yM.o;rw [j8];exact ⟨⟨h1,h2,h3,h4,⟨Un,Uo,Up,Rc⟩,⟨Wk,Wl,Wm⟩,h6,h7,Il,hrg⟩,rfl,rfl,rfl⟩
  have HC:=ae NF;clear Il hI hrg FR Mt jD K3 CV K2 mS sq yM NC fL NF j8;go_upto_region 6 with fail
  clear c11 f11;generalize (W8.setCell ⟨X,11,none⟩ (.slice wa hs.length jK))=W9 at*;obtain ⟨c0,c1,c2,c3,c4,c5,c6,c7,c8,c9,c10,c11⟩:=aP.at HC.o;go_wp2_with (refine dM rfl 78 _ _ rfl R kB.cells x4.cells Wi.o rfl rfl (by kernel_rfl) rfl rfl ?_;intro Ew rE ij)
  have wN:=ae (ND.o.over ij GP.o);have Dg:=ae (Wh.o.but ij (fun e=>p9 e.symm))
  have Dh:Hid (aD Ew wa jK hs):=PN.o.dA ij Wj.o;obtain ⟨d0,d1,d2,d3,d4,d5,d6,d7,d8,d9,d10,d11⟩:=aP.at rE;clear c0 c1 c2 c3 c4 c5 c6 c7 c8 c9 c10 c11 ij rE;exact bodyPost_ret (v:= .agg x4.cells.toArray) (by simp [results,results34,go_sem,d0,d1,d2,d3,d4,d5,d6,d7,d8,d9,d10,d11,aP.cells]) rfl ⟨x4,rfl,uG.o.1,by rw [uG.o.2.1,uG.o.2.2.1,uG.o.2.2.2];exact Dh.o,by rw [uG.o.2.1];exact FT.o,Dg.o,wN.o⟩
 ·go_upto_region 5 with fail
  obtain ⟨x3,FQ,Ra,AH,Mu,Rb⟩: ∃x:aP,(x.name=aI 108 i∧x.cU=(fr:Int)∧x.j5=(tb:Int)∧(1≤x.rn∧x.rn≤4∧1≤x.rd∧x.rd≤2)∧(-3≤x.se∧x.se≤0∧1≤x.vW∧x.vW≤2∧0≤x.tj∧x.tj≤3∧x.yA=1)∧(4≤x.cY∧x.cY≤43)∧(x.cY≤x.jS∧x.jS≤62)∧x.away= []∧x.aa=none∧x.ac=0)∧aJ W7 X 78 x.cells∧aY W7 T a c l∧ar T V W7∧aJ W7 R 78 kB.cells:=by
   obtain ⟨h1,h2,h3,h4,⟨Un,Uo,Up,Rc⟩,h6,h7,h8,h9,h10⟩:=wE.o;exact ⟨x2,⟨h1,h2,h3,h4,⟨by omega,by omega,by omega,by omega,by omega,by omega,Rc⟩,h6,h7,h8,h9,h10⟩,Uk.o,Um.o,Nz.o,Ul.o⟩
  clear Uk Um Nz Ul wE;have yM:=ae FQ;have CV:=ae Ra;have K2:=ae AH;have mS:=ae Mu;have sq:=ae Rb
  clear FQ Ra AH Mu Rb;go_wp2_with fail
  refine (NC.o W7 mS.o K2.o).mono ?_;rintro e W8 ⟨wa,jK,hs,rfl,Il,hI,hrg,FR,Mt,jD⟩;have K3:=ae (CV.o.but jD pz);have NF:aJ (W8.setCell ⟨X,11,none⟩ (.slice wa hs.length jK)) X 78 ({x3 with aa:=wa,ac:=jK,away:=hs}:aP).cells:=K3.o.set 11 (.slice wa hs.length jK);have c11:=K3.o.cl 11 (.slice x3.aa x3.away.length x3.ac) rfl;have f11:=K3.o.frozen 11
  have Wh:Hid (aY (W8.setCell ⟨X,11,none⟩ (.slice wa hs.length jK)) T a c l):=by
   obtain ⟨j,hj,hA⟩:=Mt;exact ⟨j,hj,hA.other _ _ pz⟩
  have ND:Hid (ar T V (W8.setCell ⟨X,11,none⟩ (.slice wa hs.length jK))):=(mS.o.trans jD).setCell (p:=⟨X,11,none⟩) GW.o _;have Wi:Hid (aJ (W8.setCell ⟨X,11,none⟩ (.slice wa hs.length jK)) R 78 kB.cells):=(sq.o.but jD p9).other _ _ Ev;have PN:Hid (aD (W8.setCell ⟨X,11,none⟩ (.slice wa hs.length jK)) wa jK hs):=aD.dA hI ((ar.refl X W8).set rfl _) (fun p hp=>by have h1:=FR p hp;have h2:=CV.o.lt;omega);have FT:Hid (Fr V.heap.size wa):=FR.mono mS.o.size;have Wj:Hid (∀p,wa=some p→p.block≠R):=fun p hp=>by have h1:=FR p hp;have h2:=sq.o.lt;omega
  obtain ⟨x4,j8⟩: ∃x4:aP,x4={x3 with aa:=wa,ac:=jK,away:=hs}:=⟨_,rfl⟩;rw [←j8]at NF
  have uG:Hid (o6 x4 i fr tb hours∧x4.aa=wa∧x4.ac=jK∧x4.away=hs):=by
   obtain ⟨h1,h2,h3,h4,⟨Un,Uo,Up,Rc,Wk,Wl,Wm⟩,h6,h7,h8,h9,h10⟩:=yM.o;rw [j8];exact ⟨⟨h1,h2,h3,h4,⟨Un,Uo,Up,Rc⟩,⟨Wk,Wl,Wm⟩,h6,h7,Il,hrg⟩,rfl,rfl,rfl⟩
  have HC:=ae NF;clear Il hI hrg FR Mt jD K3 CV K2 mS sq yM NC fL NF j8;go_upto_region 6 with fail
  clear c11 f11;generalize (W8.setCell ⟨X,11,none⟩ (.slice wa hs.length jK))=W9 at*;obtain ⟨c0,c1,c2,c3,c4,c5,c6,c7,c8,c9,c10,c11⟩:=aP.at HC.o;go_wp2_with (refine dM rfl 78 _ _ rfl R kB.cells x4.cells Wi.o rfl rfl (by kernel_rfl) rfl rfl ?_;intro Ew rE ij)
  have wN:=ae (ND.o.over ij GP.o);have Dg:=ae (Wh.o.but ij (fun e=>p9 e.symm))
  have Dh:Hid (aD Ew wa jK hs):=PN.o.dA ij Wj.o;obtain ⟨d0,d1,d2,d3,d4,d5,d6,d7,d8,d9,d10,d11⟩:=aP.at rE;clear c0 c1 c2 c3 c4 c5 c6 c7 c8 c9 c10 c11 ij rE;exact bodyPost_ret (v:= .agg x4.cells.toArray) (by simp [results,results34,go_sem,d0,d1,d2,d3,d4,d5,d6,d7,d8,d9,d10,d11,aP.cells]) rfl ⟨x4,rfl,uG.o.1,by rw [uG.o.2.1,uG.o.2.2.1,uG.o.2.2.2];exact Dh.o,by rw [uG.o.2.1];exact FT.o,Dg.o,wN.o⟩
end Go.Proofs.YtkpngkdgphojlaaGreat
