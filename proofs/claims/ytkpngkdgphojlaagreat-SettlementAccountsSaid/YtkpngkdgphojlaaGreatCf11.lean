/- Texts of the proof. -/
import Derived.Laws.Tables
import Derived.Test.YtkpngkdgphojlaaGreatCf10
set_option linter.all false
set_option maxHeartbeats 2000000
set_option maxRecDepth 100000
namespace Go.Proofs.YtkpngkdgphojlaaGreat
open Go.Proofs.Tryz
open Go.RowKit
def bJ (w:World) (T:Nat) (a:Option Addr) (c:Nat) (l:List Int):Prop:= ∃i:Nat,i≤l.length∧aQ w T 135 [.slice a l.length c,i64 i]
theorem bJ.ext {w w':World} {T:Nat} {a:Option Addr} {c:Nat} {l:List Int} (h:bJ w T a c l) (e:Ext w w'):bJ w' T a c l:=by
 obtain ⟨i,h1,h2⟩:=h;exact ⟨i,h1,h2.ext e⟩
theorem bJ.lt {w:World} {T:Nat} {a:Option Addr} {c:Nat} {l:List Int} (h:bJ w T a c l):T<w.heap.size:=by
 obtain ⟨i,h1,h2⟩:=h;exact h2.lt
theorem bJ.keep {w w':World} {T:Nat} {a:Option Addr} {c:Nat} {l:List Int} (h:bJ w T a c l) (e:w'.heap[T]?=w.heap[T]?):bJ w' T a c l:=by
 obtain ⟨i,h1,h2⟩:=h;exact ⟨i,h1,h2.keep e⟩
theorem bJ.but {w w':World} {T K:Nat} {a:Option Addr} {c:Nat} {l:List Int} (h:bJ w T a c l) (e:ar K w w') (hk:T≠K):bJ w' T a c l:=h.keep (e.block T h.lt hk)
theorem Oe (V:World) (a:Option Addr) (c:Nat) (l:List Int):
 Calls prog 30 #[.slice a l.length c] V fun e w'=>e= .returned (.pointer (some ⟨V.heap.size,0,none⟩))∧bJ w' V.heap.size a c l∧Ext V w':=by
 go_enter func30,ntmps30
 go_wp2_with fail
 go_ret;exact ⟨rfl,⟨0,Nat.zero_le _,aQ.alloc V 135 [.slice a l.length c,i64 0]⟩,(Ext.refl V).alloc _⟩
def lQ (V:World) (T:Nat) (a:Option Addr) (c:Nat) (l:List Int) (w':World):Prop:=bJ w' T a c l∧ar T V w'
theorem uG (w0 V:World) (T:Nat) (a:Option Addr) (c:Nat) (l:List Int) (n:Int) (hK:w0.heap.size≤T) (hV:Ext w0 V) (hl:aI w0 a c l) (hT:bJ V T a c l) (hn:0<n) (EH:n<1000000):
 Calls prog 31 #[.pointer (some ⟨T,0,none⟩),i64 n] V fun e w'=> ∃v:Int,e= .returned (i64 v)∧(0≤v∧v<n)∧lQ V T a c l w':=by
 have hle:=hl.le;have dQ:=hl.cap
 obtain ⟨i,hi,hA⟩:=hT;have c0:V.cell? ⟨T,0,none⟩=some (.slice a l.length c):=(hA.cell 0).trans rfl;have c1:V.cell? ⟨T,1,none⟩=some (i64 (i:Int)):=(hA.cell 1).trans rfl;have f1:V.frozen? ⟨T,1,none⟩=false:=hA.frozen 1;have HA:=ae hA;have HN:=ae (And.intro hn EH)
 by_cases hlt:i<l.length
 ·have ht:decide ((l.length:Int)≤(i:Int))=false:=by simp;omega
  obtain ⟨ab,ao,ha,i0⟩:=(hl.ext hV).cell i hlt;have hrg:=(hl.ext hV).NV i hlt
  have hTb:ab≠T:=by
   obtain ⟨b3,o3,h3,q0⟩:=hl.cell i hlt;rw [ha]at h3;cases h3
   have:=cG q0;simp only at this;omega
  obtain ⟨v,hv⟩: ∃v,v=l[i]:=⟨_,rfl⟩;rw [←hv]at i0 hrg;have sq:Hid (aQ ((V.setCell ⟨T,1,none⟩ (i64 ((i+1:Nat):Int))).drew) T 135 [.slice a l.length c,i64 ((i+1:Nat):Int)]):=(HA.o.set 1 (i64 ((i+1:Nat):Int))).ext (Ext.refl _).drew;have gH:IntKind.i64.wrap ((i:Int)+1)=((i+1:Nat):Int):=by rw [IntKind.wrap_i64];omega
  have hw2:IntKind.i64.wrap (((i+1:Nat):Int)-1)=(i:Int):=by rw [IntKind.wrap_i64];omega
  have hw3:IntKind.i64.wrap (i:Int)=(i:Int):=by rw [IntKind.wrap_i64];omega
  have j0:(V.setCell ⟨T,1,none⟩ (i64 ((i+1:Nat):Int))).drew.cell? ⟨ab,ao+i,none⟩=some (i64 v):=by
   have h5:(V.setCell ⟨T,1,none⟩ (i64 ((i+1:Nat):Int))).cell? ⟨ab,ao+i,none⟩=some (i64 v):=by rw [World.cell?_setCell_far _ _ _ _ (fun e=>hTb e.symm)];exact i0
   exact h5
  have d0:(V.setCell ⟨T,1,none⟩ (i64 ((i+1:Nat):Int))).drew.cell? ⟨T,0,none⟩=some (.slice a l.length c):=(sq.o.cell 0).trans rfl;have d1:(V.setCell ⟨T,1,none⟩ (i64 ((i+1:Nat):Int))).drew.cell? ⟨T,1,none⟩=some (i64 ((i+1:Nat):Int)):=(sq.o.cell 1).trans rfl;have WK:=ae (fun U=>Ic U v n hrg.1 (by omega) hn EH);have HMR:=ae (CU v n hn);have jS:(0:Int)≤(i:Int):=by omega
  have jI:(i:Int)<(l.length:Int):=by omega
  have HX:Hid (ar T V ((V.setCell ⟨T,1,none⟩ (i64 ((i+1:Nat):Int))).drew.drew)):=((ar.refl T V).eL.trans ((Ext.refl _).drew.drew.but T));subst ha;clear hA hl hV hK hn EH hv hrg i0;go_enter func31,ntmps31
  go_wp2_with fail
  refine aL (fun w'=>w'.cell? ⟨T,0,none⟩=some (.slice (some ⟨ab,ao,none⟩) l.length c)∧w'.cell? ⟨T,1,none⟩=some (i64 (i:Int))) (fun w'=>True) (fun i=>false) (by kernel_rfl) (⟨c0,c1⟩) (trivial) (fun ay ah=> ?_);refine aF 0 ay ah ?_;refine aF 1 ay ah ?_;refine aF 2 ay ah ?_;refine aF 3 ay ah ?_ (v:=i64 (i:Int));refine aF 4 ay ah ?_;refine aF 5 ay ah ?_;refine aF 6 ay ah ?_;refine aF 7 ay ah ?_;refine aF 8 ay ah ?_ (v:= .int .i64 (l.length:Int));refine aF 9 ay ah ?_;refine aD (by kernel_rfl) ?_ _;clear ay ah;clear ht;go_wp2_with fail
  refine aL (fun w'=>w'.cell? ⟨T,0,none⟩=some (.slice (some ⟨ab,ao,none⟩) l.length c)∧w'.cell? ⟨T,1,none⟩=some (i64 ((i+1:Nat):Int))∧w'.cell? ⟨ab,ao+i,none⟩=some (i64 v)) (fun w'=>True) (fun i=>false) (by kernel_rfl) (⟨d0,d1,j0⟩) (trivial) (fun ay ah=> ?_);refine aF 0 ay ah ?_;refine aF 1 ay ah ?_;refine aF 2 ay ah ?_;refine aF 3 ay ah ?_;refine aF 4 ay ah ?_;refine aF 5 ay ah ?_;refine aF 6 ay ah ?_;refine aF 7 ay ah ?_ (v:=i64 ((i+1:Nat):Int));refine aF 8 ay ah ?_ (v:= .int .i64 (i:Int));refine aF 9 ay ah ?_;refine aF 10 ay ah ?_ (v:=i64 v);refine aF 11 ay ah ?_ (v:=i64 n);refine fp 12 rfl (fun Kc hK=> ?_);go_simp;refine (WK.o _).mono ?_;rintro e z1 ⟨rfl,rfl⟩;refine hK.o _ _ (⟨d0,d1,j0⟩) (trivial) (fun ay ah=> ?_);clear hK Kc;try simp only [sS]
  refine aF 13 ay ah ?_ (v:=i64 (FX v n));refine aD (by kernel_rfl) ?_ _;clear ay ah;go_wp2_with fail
  go_ret;exact ⟨FX v n,rfl,HMR.o,⟨i+1,by omega,sq.o.ext (Ext.refl _).drew⟩,HX.o⟩
 ·obtain rfl:i=l.length:=by omega
  have ht:decide ((l.length:Int)≤(l.length:Int))=true:=by simp
  clear hA hl hV hK hn EH;go_enter func31,ntmps31
  go_wp2_with fail
  refine aL (fun w'=>w'.cell? ⟨T,0,none⟩=some (.slice a l.length c)∧w'.cell? ⟨T,1,none⟩=some (i64 (l.length:Int))) (fun w'=>True) (fun i=>false) (by kernel_rfl) (⟨c0,c1⟩) (trivial) (fun ay ah=> ?_);refine aF 0 ay ah ?_;refine aF 1 ay ah ?_;refine aF 2 ay ah ?_;refine aF 3 ay ah ?_ (v:=i64 (l.length:Int));refine aF 4 ay ah ?_;refine aF 5 ay ah ?_;refine aF 6 ay ah ?_;refine aF 7 ay ah ?_;refine aF 8 ay ah ?_ (v:= .int .i64 (l.length:Int));refine aF 9 ay ah ?_;refine aD (by kernel_rfl) ?_ _;clear ay ah;go_wp2_with fail
  go_ret;exact ⟨0,rfl,⟨Int.le_refl _,HN.o.1⟩,⟨l.length,Nat.le_refl _,HA.o.ext (Ext.refl _).drew⟩,(Ext.refl V).drew.but T⟩
theorem kY (w0 V:World) (T:Nat) (a:Option Addr) (c:Nat) (l:List Int) (n:Nat) (m:Int) (hK:w0.heap.size≤T) (hV:Ext w0 V) (hl:aI w0 a c l) (hT:bJ V T a c l) (hn:n≤1000) (hm:0<m) (nc:m<1000000):
 Calls prog 32 #[.pointer (some ⟨T,0,none⟩),.int .i64 (n:Int),i64 m] V fun e w'=> ∃b cap hs,e= .returned (.slice b n cap)∧hs.length=n∧aI w' b cap hs∧(∀x∈hs,0≤x∧x<m)∧Fr V.heap.size b∧lQ V T a c l w':=by
 have gD:=ae (fun U (hx:ar T V U) (hU:bJ U T a c l)=>uG w0 U T a c l m hK (hx.ext hV hK) hl hU hm nc);have HT:=ae hT;have IP:=ae hT.lt;have WY:=ae nc;clear hl hV hK hT hm nc;go_enter func32,ntmps32
 go_wp2_with fail
 go_loopw [7,8] (fun v ii wr=> ∃(i:Nat) (hs:List Int),i≤n∧hs.length=i∧(∀x∈hs,0≤x∧x<m)∧aJ wr V.heap.size 3 1 v (fK hs)∧lQ V T a c l wr∧ii= .int .i64 i) (fun _ ii _=>n-(intOf ii).toNat)
 case atStart=>exact ⟨0,[],Nat.zero_le _,rfl,fun x hx=>absurd hx (by simp),aJ.nil _ _ _ _,⟨HT.o,ar.refl _ _⟩,rfl⟩
 case round=>
  obtain ⟨i,hs,hi,jE,hrg,hown,⟨hT,hx⟩,rfl⟩:=hrel;clear HT;by_cases hlt:i<n
  ·have jI:(i:Int)<(n:Int):=by omega
   have HN:=ae (gD.o wr hx hT);have HO:=ae hown;have HX:=ae hx;have HRG:=ae hrg;have Rc:=ae jE
   clear hown hx hT hrg jE;go_wp2_with fail
   refine HN.o.mono ?_;rintro e W1 ⟨v,rfl,hv,IQ,hx1⟩;have WZ:=ae hv;have zj:=ae IQ;have eE:=ae (HX.o.trans hx1)
   have p9:Hid (aJ W1 V.heap.size 3 1 u7 (fK hs)):=HO.o.but hx1 IP.o
   have HOW:Hid (W1.ownsRow V.heap.size 3 1 u7 hs.length (fK hs).flatten):=by
    have h5:=p9.o.own;rw [bM]at h5;exact h5
   have hsz:=eE.o.size;clear hv IQ hx1 HN;go_wp2_with (at_builtin;refine bn _ rfl (.tmp 14) (.tmp 18) 22 rfl V.heap.size 3 (.int .i64 0) 1 8 underlying22 Tryz.info_int rfl (by decide) u7 hs.length (fK hs).flatten rfl ?c1 (some ⟨W1.heap.size,0,none⟩) 1 1 [i64 v] rfl rfl ?c2 ?c3 ?c4 ?c5 (by decide) ?c6 ?_;rotate_right;intro v1 w5 ho he hb hz hv)
   case c1=>exact bW HOW.o ((Ext.refl _).alloc _)
   case c2=>exact fun _=>⟨_,rfl,dD W1 3 [i64 v]⟩
   case c3=>intro u hu;rw [List.mem_singleton]at hu;subst hu;rfl
   case c4=>intro e;cases e
   case c5=>have:=Rc.o;omega
   case c6=>simp;omega
   have na:=HOW.o.lt;have AD:(W1.alloc (.cells #[i64 v] 3)).heap.size=W1.heap.size+1:=by simp
   have W_:=IP.o;have xT:bJ w5 T a c l:=bJ.keep (zj.o.ext ((Ext.refl W1).alloc _)) (hb.o T (by have:=zj.o.lt;omega) (fun e=>by have:=(na T e.symm).1;omega));have xX:ar T V w5:=ar.append (eE.o.alloc' _) (Nat.le_refl _) (fun k e=>(na k e).1) he.o hb.o hz.o;have kF:=p9.o.snoc (w':=w5) (v':=v1) (r:= [i64 v]) rfl (by rw [bM];exact ho.o);rw [←kJ]at kF;have HR:=ae (And.intro kF (And.intro xT xX))
   have Qj:Hid (∀x∈hs++ [v],0≤x∧x<m):=fun x hx=>by
    rcases List.mem_append.1 hx with h|h
    ·exact HRG.o x h
    ·rw [List.mem_singleton]at h;rw [h];exact WZ.o
   clear xT xX kF AD na ho he hb hz hv W_;exact ⟨⟨i+1,hs++ [v],by omega,by rw [List.length_append,Rc.o];rfl,Qj.o,HR.o.1,HR.o.2,by go_num⟩,by simp only [intOf];omega⟩
  ·obtain rfl:i=n:=by omega
   obtain ⟨b,cap,rfl,hS,jm⟩:=hown.recs (by decide);rw [bM,jE];have HI:Hid (aI wr b cap hs):=aI.ov hS (fun z hz=>by have:=hrg z hz;have:=WY.o;unfold bB;omega);have HR:=ae (And.intro jE (And.intro hrg (And.intro jm (And.intro hT hx))));clear hown hS jm hT hx hrg jE;go_wp2_with fail
   go_ret;exact ⟨b,cap,hs,rfl,HR.o.1,HI.o,HR.o.2.1,HR.o.2.2.1,HR.o.2.2.2⟩
theorem ER (w0 V:World) (T:Nat) (a:Option Addr) (c:Nat) (l:List Int) (n:Int) (hK:w0.heap.size≤T) (hV:Ext w0 V) (hl:aI w0 a c l) (hT:bJ V T a c l) (hn:0<n) (EH:n<1000000):
 Calls prog 77 #[.pointer (some ⟨T,0,none⟩),i64 n] V fun e w'=> ∃b cap hs,e= .returned (.slice b hs.length cap)∧(hs.length≤1∧(hs= []→b=none))∧aI w' b cap hs∧(∀x∈hs,0≤x∧x<n)∧Fr V.heap.size b∧lQ V T a c l w':=by
 have Lh:=ae (uG w0 V T a c l 6 hK hV hl hT (by decide) (by decide));have yj:=ae (fun U (hx:ar T V U) (hU:bJ U T a c l)=>uG w0 U T a c l n hK (hx.ext hV hK) hl hU hn EH);have HN:=ae EH;clear hK hV hl hT hn EH;go_enter func77,ntmps77
 go_wp2_with fail
 refine Lh.o.mono ?_;rintro e W1 ⟨v,rfl,hv,IQ,hx1⟩;have zj:=ae IQ;have eE:=ae hx1
 have hsz:=hx1.size;clear IQ hx1 Lh;rcases Bool.eq_false_or_eq_true (v==5)with h5|h5
 ·have yj:=ae (yj.o W1 eE.o zj.o)
  clear hv;go_wp2_with fail
  refine yj.o.mono ?_;rintro e W2 ⟨x,rfl,Rp,Rq,hx2⟩;have Og:=ae Rp;have p7:=ae Rq;have ez:=ae (eE.o.trans hx2)
  have Xa:=Nat.le_trans hsz hx2.size;clear Rp Rq hx2 hsz yj;go_wp2_with fail
  go_ret;refine ⟨some ⟨W2.heap.size,0,none⟩,1,[x],rfl,⟨Nat.le_refl _,fun q=>absurd q (by simp)⟩,aI.one W2 x (by have:=Og.o;have:=HN.o;unfold bB;omega),fun z hz=> ?_,Fr.some Xa,p7.o.ext ((Ext.refl W2).alloc _),ez.o.alloc' _⟩;rw [List.mem_singleton]at hz;rw [hz];exact Og.o
 ·clear hv
  go_wp2_with fail
  go_ret;exact ⟨none,0,[],rfl,⟨Nat.zero_le _,fun _=>rfl⟩,⟨Nat.le_refl _,by decide,fun i hi=>absurd hi (Nat.not_lt_zero _),fun i hi=>absurd hi (Nat.not_lt_zero _)⟩,fun z hz=>absurd hz (by simp),Fr.none _,zj.o,eE.o⟩
def Gl:ByteArray:={data:= #[48,49,50,51,52,53,54,55,56,57,97,98,99,100,101,102]}
def aR (k:UInt8) (i:Nat):ByteArray:={data:= #[k]}++Gl.extract i (i+1)
theorem uH (w:World) (k:UInt8) (i:Nat) (hi:i<16):
 Calls prog 33 #[.string {data:= #[k]},.int .i64 (i:Int)] w fun e w'=>e= .returned (.string (aR k i))∧w'=w:=by
 have h1:Int.tmod (i:Int) 16=(i:Int):=by rw [Int.tmod_eq_emod_of_nonneg (by omega)];omega
 have h2:IntKind.i64.wrap (i:Int)=(i:Int):=by rw [IntKind.wrap_i64];omega
 have h3:IntKind.i64.wrap ((i:Int)+1)=((i+1:Nat):Int):=by rw [IntKind.wrap_i64];omega
 go_enter func33,ntmps33
 go_wp2_with fail
 go_ret;exact ⟨rfl,rfl⟩
theorem oy (k:UInt8) (i:Nat) (hi:i<16):(aR k i).data= #[k,Gl.data[i]!]:=by
 have h:i=0∨i=1∨i=2∨i=3∨i=4∨i=5∨i=6∨i=7∨i=8∨i=9∨i=10∨i=11∨i=12∨i=13∨i=14∨i=15:=by omega
 rcases h with rfl|rfl|rfl|rfl|rfl|rfl|rfl|rfl|rfl|rfl|rfl|rfl|rfl|rfl|rfl|rfl<;>rfl
theorem lR (k:UInt8) (i:Nat) (hi:i<16):(aR k i).size=2:=by
 show(aR k i).data.size=2;rw [oy k i hi];rfl
theorem ar.over {K R:Nat} {V W w':World} (h:ar K V W) (k:ar R W w') (hR:V.heap.size≤R):ar K V w':=
 ⟨k.os.trans h.os,k.tape.trans h.tape,k.output.trans h.output,Nat.le_trans h.drawn k.drawn,Nat.le_trans h.size k.size,fun x hx hK=>by
   have:=h.size;rw [k.block x (by omega) (by omega)];exact h.block x hx hK⟩
section
variable{P:Program}
theorem bp {ops:Array Oper} {rest:List Oper} {o:Oper} {a:Act} {w:World} {Q:Exit→Act→World→Prop} (hgd:o.guard=none) (ty:TypeId) (x y:Operand) (ho:o.op= .store ty x y)
 (R:Nat) (cs cs':List Value) (hA:aQ w R ty cs) (hx:a.eval x= .pointer (some ⟨R,0,none⟩)) (hy:a.eval y= .agg cs'.toArray) (hi:(P.info? ty).map (·.size)=some cs'.length) (hold:cs.length=cs'.length) (h1:cs'.all (·.oneCell')=true)
 (h: ∀w',aQ w' R ty cs'→ar R w w'→wpList P ops Q rest (a.put o.dst undef) w'):wpList P ops Q (o::rest) a w:=
 wpList_plain hgd fun K hK=>by
  have hr:=run_storeVar_row (P:=P) w R ty ty cs.toArray cs'.toArray hA (by simpa using hi) (by simpa using hold) (by simpa using h1);unfold Oper.wp execOp;simp only [ho,hx,hy,Instr.storeAt,Instr.sureAddr,Sem.run_bind,Sem.run_pure,Result.andThen_ok,hr];refine hK _ _ (h _ ?_ ?_)
  ·exact setRow_heap w R cs.toArray cs'.toArray ty (0,0) hA
  ·refine ⟨rfl,rfl,rfl,Nat.le_refl _,by simp [World.setRow],fun k hk hne=> ?_⟩
   simp [World.setRow,Array.getElem?_modify,Ne.symm hne]
end
structure p_ (x:aS) (i fr tb:Nat) (hours:Int):Prop where
 name:x.name=aR 108 i
 cR:x.cR=(fr:Int)
 kq:x.kq=(tb:Int)
 r:1≤x.rn∧x.rn≤4∧1≤x.rd∧x.rd≤2
 s0: -3≤x.qD∧x.qD≤0∧1≤x.uf∧x.uf≤2
 s1:0≤x.sk∧x.sk≤3∧x.wI=1
 cY:4≤x.cY∧x.cY≤43
 jH:x.cY≤x.jH∧x.jH≤62
 Ll:x.away.length≤1∧(x.away= []→x.aa=none)
 away: ∀z∈x.away,0≤z∧z<hours
def kG:aS:=⟨{data:= #[]},0,0,0,0,0,0,0,0,0,0,none,0,[]⟩
def fI (w0 V:World) (T:Nat) (a:Option Addr) (c:Nat) (l:List Int):Prop:= ∀(U:World) (m:Int),ar T V U→bJ U T a c l→0<m→m<1000000→Calls prog 31 #[.pointer (some ⟨T,0,none⟩),i64 m] U fun e w'=> ∃v:Int,e= .returned (i64 v)∧(0≤v∧v<m)∧lQ U T a c l w'
theorem fI.of (w0 V:World) (T:Nat) (a:Option Addr) (c:Nat) (l:List Int) (hK:w0.heap.size≤T) (hV:Ext w0 V) (hl:aI w0 a c l):fI w0 V T a c l:=
 fun U m hx hU h1 h2=>uG w0 U T a c l m hK (hx.ext hV hK) hl hU h1 h2
theorem ES (w0 V:World) (T:Nat) (a:Option Addr) (c:Nat) (l:List Int) (i fr tb:Nat) (hours:Int) (hK:w0.heap.size≤T) (hV:Ext w0 V) (hl:aI w0 a c l) (hT:bJ V T a c l) (hi:i<16) (hh:0<hours) (UU:hours<1000):
 Calls prog 34 #[.pointer (some ⟨T,0,none⟩),.int .i64 (i:Int),.int .i64 (fr:Int),.int .i64 (tb:Int),i64 hours] V fun e w'=> ∃x:aS,e= .returned (.agg x.cells.toArray)∧p_ x i fr tb hours∧aI w' x.aa x.ac x.away∧Fr V.heap.size x.aa∧lQ V T a c l w':=by
 have gD:=ae (fI.of w0 V T a c l hK hV hl);have Oh:=ae (fun U (hx:ar T V U) (hU:bJ U T a c l)=>ER w0 U T a c l hours hK (hx.ext hV hK) hl hU hh (by omega));have Dd:=ae (fun U=>uH U 108 i hi);have HT:=ae hT;have IP:=ae hT.lt;clear hK hV hl hT hi hh UU;go_enter func34,ntmps34
 go_upto_region 1 with fail
 obtain ⟨W0,hW,x0,Z0,A0⟩:=aX V 78 kG.cells;rw [show V.alloc (.cells #[.string {data:= #[]},i64 0,i64 0,i64 0,i64 0,i64 0,i64 0,i64 0,i64 0,i64 0,i64 0,.slice none 0 0] 78)=W0 from hW.symm];obtain ⟨R,hR⟩: ∃R,R=V.heap.size:=⟨_,rfl⟩;rw [←hR]at A0⊢;have qN:R≠T:=by have:=IP.o;omega
 have ET:Hid (V.heap.size≤R):=by show _≤_;omega
 have HR:=ae A0;have HX:=ae (x0.but T);have HT:=ae (HT.o.ext x0)
 clear hW Z0 A0 hR x0;go_wp2_with fail
 refine (Dd.o W0).mono ?_;rintro e w1 ⟨rfl,gH⟩;rw [gH];clear gH
 go_wp2_with fail
 refine (gD.o W0 4 HX.o HT.o (by decide) (by decide)).mono ?_;rintro e W1 ⟨v1,rfl,yo,IQ,hx1⟩;have eE:=ae (HX.o.trans hx1);go_wp2_with fail
 refine (gD.o W1 2 eE.o IQ (by decide) (by decide)).mono ?_;rintro e W2 ⟨v2,rfl,hv2,Rq,hx2⟩;have ez:=ae (eE.o.trans hx2);go_wp2_with fail
 refine (gD.o W2 40 ez.o Rq (by decide) (by decide)).mono ?_;rintro e W3 ⟨v3,rfl,hv3,IU,hx3⟩;have kX:=ae (ez.o.trans hx3);have tK:=ae (((HR.o.but hx1 qN).but hx2 qN).but hx3 qN);have Lm:=ae IU;have q1:IntKind.i64.wrap (1+v1)=1+v1:=by rw [IntKind.wrap_i64];omega
 have q2:IntKind.i64.wrap (1+v2)=1+v2:=by rw [IntKind.wrap_i64];omega
 have q3:IntKind.i64.wrap (4+v3)=4+v3:=by rw [IntKind.wrap_i64];omega
 clear IQ Rq IU hx1 hx2 hx3 eE ez HX HT HR;obtain ⟨x1,hx1⟩: ∃x1:aS,x1=⟨aR 108 i,(fr:Int),(tb:Int),1+v1,1+v2,0,1,0,1,4+v3,0,none,0,[]⟩:=⟨_,rfl⟩
 have wW:Hid (x1.name=aR 108 i∧x1.cR=(fr:Int)∧x1.kq=(tb:Int)∧(1≤x1.rn∧x1.rn≤4∧1≤x1.rd∧x1.rd≤2)∧(x1.qD=0∧x1.uf=1∧x1.sk=0∧x1.wI=1)∧(4≤x1.cY∧x1.cY≤43)∧x1.away= []∧x1.aa=none∧x1.ac=0):=by
  rw [hx1];exact ⟨rfl,rfl,rfl,⟨by simp only;omega,by simp only;omega,by simp only;omega,by simp only;omega⟩,⟨rfl,rfl,rfl,rfl⟩,⟨by simp only;omega,by simp only;omega⟩,rfl,rfl,rfl⟩
 clear yo hv2 hv3;go_upto_region 2 with fail
 obtain ⟨W4,M0,x4,Z4,A4⟩:=aX W3 78 x1.cells;rw [show W3.alloc (.cells #[.string (aR 108 i),i64 (fr:Int),i64 (tb:Int),i64 (1+v1),i64 (1+v2),i64 0,i64 1,i64 0,i64 1,i64 (4+v3),i64 0,.slice none 0 0] 78)=W4 from by rw [M0,hx1];rfl];obtain ⟨X,hX⟩: ∃X,X=W3.heap.size:=⟨_,rfl⟩;rw [←hX]at A4⊢;have qy:X≠T:=by have:=Lm.o.lt;omega
 have EU:X≠R:=by have:=tK.o.lt;omega
 have EW:Hid (V.heap.size≤X):=by show _≤_;rw [hX];exact kX.o.size
 have um:=ae A4;have qI:=ae (kX.o.trans (x4.but T));have HT4:=ae (Lm.o.ext x4);have HR4:=ae (tK.o.ext x4)
 clear M0 hX Z4 A4 x4 hx1 q1 q2 q3 kX Lm tK Dd;have c9:=um.o.cl 9 (i64 x1.cY) rfl;refine aL (fun w'=>w'.cell? ⟨X,9,none⟩=some (i64 x1.cY)) (fun w'=>True) (fun i=>false) (by kernel_rfl) (c9) (trivial) (fun ay ah=> ?_);refine aF 0 ay ah ?_;refine aF 1 ay ah ?_ (v:=i64 x1.cY);refine aF 2 ay ah ?_;refine fp 3 rfl (fun Kc hK=> ?_);go_simp;refine (gD.o W4.drew 20 (qI.o.trans ((Ext.refl W4).drew.but T)) (HT4.o.ext (Ext.refl _).drew) (by decide) (by decide)).mono ?_;rintro e W5 ⟨v4,rfl,hv4,Rs,dY⟩;refine hK.o _ _ (cK (ak (Ext.refl W4).drew c9) dY qy) (trivial) (fun ay ah=> ?_);clear hK Kc;try simp only [sS]
 have q4:IntKind.i64.wrap (x1.cY+v4)=x1.cY+v4:=by rw [IntKind.wrap_i64];have:=wW.o.2.2.2.2.2.1;omega
 refine aF 4 ay ah ?_ (v:=i64 (x1.cY+v4));refine aF 5 ay ah ?_;have Rt:W5.cell? ⟨X,10,none⟩=some (i64 x1.jH):=(((um.o.ext (Ext.refl _).drew).but dY qy).cell 10).trans rfl;have f10:W5.frozen? ⟨X,10,none⟩=false:=((um.o.ext (Ext.refl _).drew).but dY qy).frozen 10;have e9:(W5.setCell ⟨X,10,none⟩ (i64 (x1.cY+v4))).cell? ⟨X,9,none⟩=some (i64 x1.cY):=((((um.o.ext (Ext.refl _).drew).but dY qy).set 10 (i64 (x1.cY+v4))).cell 9).trans rfl;refine fp 6 rfl (fun Kc hK=> ?_);go_simp;refine hK.o _ _ (e9) (trivial) (fun ay ah=> ?_);clear hK Kc;try simp only [sS]
 refine aD (by kernel_rfl) ?_ _;clear ay ah Rt f10 e9;have ym:Hid (aQ (W5.setCell ⟨X,10,none⟩ (i64 (x1.cY+v4))) X 78 ({x1 with jH:=x1.cY+v4}:aS).cells):=((um.o.ext (Ext.refl _).drew).but dY qy).set 10 (i64 (x1.cY+v4))
 have HT5:Hid (bJ (W5.setCell ⟨X,10,none⟩ (i64 (x1.cY+v4))) T a c l):=by
  obtain ⟨j,hj,hA⟩:=Rs;exact ⟨j,hj,hA.other _ _ qy⟩
 have vp:Hid (ar T V (W5.setCell ⟨X,10,none⟩ (i64 (x1.cY+v4)))):=((qI.o.trans ((Ext.refl W4).drew.but T)).trans dY).setCell (p:=⟨X,10,none⟩) EW.o _;have HR5:Hid (aQ (W5.setCell ⟨X,10,none⟩ (i64 (x1.cY+v4))) R 78 kG.cells):=((HR4.o.ext (Ext.refl _).drew).but dY qN).other _ _ EU;obtain ⟨x2,hx2⟩: ∃x2:aS,x2={x1 with jH:=x1.cY+v4}:=⟨_,rfl⟩
 have zk:Hid (x2.name=aR 108 i∧x2.cR=(fr:Int)∧x2.kq=(tb:Int)∧(1≤x2.rn∧x2.rn≤4∧1≤x2.rd∧x2.rd≤2)∧(x2.qD=0∧x2.uf=1∧x2.sk=0∧x2.wI=1)∧(4≤x2.cY∧x2.cY≤43)∧(x2.cY≤x2.jH∧x2.jH≤62)∧x2.away= []∧x2.aa=none∧x2.ac=0):=by
  obtain ⟨h1,h2,h3,h4,h5,h6,h7,h8,h9⟩:=wW.o;rw [hx2];exact ⟨h1,h2,h3,h4,h5,h6,⟨by simp only;omega,by simp only;omega⟩,h7,h8,h9⟩
 rw [←hx2]at ym;clear hx2 hv4 q4 c9 Rs dY um qI HT4 HR4 wW;generalize (W5.setCell ⟨X,10,none⟩ (i64 (x1.cY+v4)))=W6 at*;go_wp2_with fail
 refine (gD.o W6 5 vp.o HT5.o (by decide) (by decide)).mono ?_;rintro e W7 ⟨v5,rfl,hv5,hT7,nZ⟩;have UX:=ae (ym.o.but nZ qy);have UY:=ae (HR5.o.but nZ qN);have Od:=ae (vp.o.trans nZ);have UZ:=ae hT7
 clear hT7 nZ hv5 ym HR5 vp HT5;rcases Bool.eq_false_or_eq_true (v5==4)with h4|h4
 ·go_wp2_with fail
  refine (gD.o W7 4 Od.o UZ.o (by decide) (by decide)).mono ?_;rintro e W8 ⟨u1,rfl,hu1,M4,g_⟩;have Qk:=ae (Od.o.trans g_);go_wp2_with fail
  refine (gD.o W8 2 Qk.o M4 (by decide) (by decide)).mono ?_;rintro e W9 ⟨u2,rfl,Ru,Rv,jC⟩;have Oi:=ae (Qk.o.trans jC);go_wp2_with fail
  refine (gD.o W9 4 Oi.o Rv (by decide) (by decide)).mono ?_;rintro e yq ⟨u3,rfl,hu3,Rw,dI⟩;have xe:=ae (Oi.o.trans dI);have Dq:=ae (((UX.o.but g_ qy).but jC qy).but dI qy);have Rx:=ae (((UY.o.but g_ qN).but jC qN).but dI qN);have q1:IntKind.i64.wrap (-u1)= -u1:=by rw [IntKind.wrap_i64];omega
  have q2:IntKind.i64.wrap (1+u2)=1+u2:=by rw [IntKind.wrap_i64];omega
  obtain ⟨-,-,-,-,-,c5,c6,c7,c8,-⟩:=aS.at Dq.o;have f5:=Dq.o.frozen 5;have f6:=Dq.o.frozen 6;have f7:=Dq.o.frozen 7;have f8:=Dq.o.frozen 8
  have Ry:Hid (aQ ((((yq.setCell ⟨X,5,none⟩ (i64 (-u1))).setCell ⟨X,6,none⟩ (i64 (1+u2))).setCell ⟨X,7,none⟩ (i64 u3)).setCell ⟨X,8,none⟩ (i64 1)) X 78 ({x2 with qD:= -u1,uf:=1+u2,sk:=u3,wI:=1}:aS).cells):=(((Dq.o.set 5 (i64 (-u1))).set 6 (i64 (1+u2))).set 7 (i64 u3)).set 8 (i64 1)
  have Rz:Hid (bJ ((((yq.setCell ⟨X,5,none⟩ (i64 (-u1))).setCell ⟨X,6,none⟩ (i64 (1+u2))).setCell ⟨X,7,none⟩ (i64 u3)).setCell ⟨X,8,none⟩ (i64 1)) T a c l):=by
   obtain ⟨j,hj,hA⟩:=Rw;exact ⟨j,hj,(((hA.other _ _ qy).other _ _ qy).other _ _ qy).other _ _ qy⟩
  have RA:Hid (ar T V ((((yq.setCell ⟨X,5,none⟩ (i64 (-u1))).setCell ⟨X,6,none⟩ (i64 (1+u2))).setCell ⟨X,7,none⟩ (i64 u3)).setCell ⟨X,8,none⟩ (i64 1))):=(((xe.o.setCell (p:=⟨X,5,none⟩) EW.o _).setCell (p:=⟨X,6,none⟩) EW.o _).setCell (p:=⟨X,7,none⟩) EW.o _).setCell (p:=⟨X,8,none⟩) EW.o _;have RD:Hid (aQ ((((yq.setCell ⟨X,5,none⟩ (i64 (-u1))).setCell ⟨X,6,none⟩ (i64 (1+u2))).setCell ⟨X,7,none⟩ (i64 u3)).setCell ⟨X,8,none⟩ (i64 1)) R 78 kG.cells):=(((Rx.o.other _ _ EU).other _ _ EU).other _ _ EU).other _ _ EU;have HQ:Hid ((({x2 with qD:= -u1,uf:=1+u2,sk:=u3,wI:=1}:aS).qD= -u1)∧ -3≤ -u1∧ -u1≤0∧1≤1+u2∧1+u2≤2∧0≤u3∧u3≤3):=⟨rfl,by omega,by omega,by omega,by omega,by omega,by omega⟩;clear M4 Rv Rw g_ jC dI hu1 Ru hu3 Od Qk Oi xe UX Dq UY Rx UZ;go_upto_region 5 with fail
  clear c5 c6 c7 c8 f5 f6 f7 f8 q1 q2
  obtain ⟨x3,KI,RF,IU,M5,RG⟩: ∃x:aS,(x.name=aR 108 i∧x.cR=(fr:Int)∧x.kq=(tb:Int)∧(1≤x.rn∧x.rn≤4∧1≤x.rd∧x.rd≤2)∧(-3≤x.qD∧x.qD≤0∧1≤x.uf∧x.uf≤2∧0≤x.sk∧x.sk≤3∧x.wI=1)∧(4≤x.cY∧x.cY≤43)∧(x.cY≤x.jH∧x.jH≤62)∧x.away= []∧x.aa=none∧x.ac=0)∧aQ ((((yq.setCell ⟨X,5,none⟩ (i64 (-u1))).setCell ⟨X,6,none⟩ (i64 (1+u2))).setCell ⟨X,7,none⟩ (i64 u3)).setCell ⟨X,8,none⟩ (i64 1)) X 78 x.cells∧bJ ((((yq.setCell ⟨X,5,none⟩ (i64 (-u1))).setCell ⟨X,6,none⟩ (i64 (1+u2))).setCell ⟨X,7,none⟩ (i64 u3)).setCell ⟨X,8,none⟩ (i64 1)) T a c l∧ar T V ((((yq.setCell ⟨X,5,none⟩ (i64 (-u1))).setCell ⟨X,6,none⟩ (i64 (1+u2))).setCell ⟨X,7,none⟩ (i64 u3)).setCell ⟨X,8,none⟩ (i64 1))∧aQ ((((yq.setCell ⟨X,5,none⟩ (i64 (-u1))).setCell ⟨X,6,none⟩ (i64 (1+u2))).setCell ⟨X,7,none⟩ (i64 u3)).setCell ⟨X,8,none⟩ (i64 1)) R 78 kG.cells:=by
   obtain ⟨h1,h2,h3,h4,h5,h6,h7,h8,h9,h10⟩:=zk.o;exact ⟨{x2 with qD:= -u1,uf:=1+u2,sk:=u3,wI:=1},⟨h1,h2,h3,h4,⟨HQ.o.2.1,HQ.o.2.2.1,HQ.o.2.2.2.1,HQ.o.2.2.2.2.1,HQ.o.2.2.2.2.2.1,HQ.o.2.2.2.2.2.2,rfl⟩,h6,h7,h8,h9,h10⟩,Ry.o,Rz.o,RA.o,RD.o⟩
  clear Ry Rz RA RD HQ zk;generalize ((((yq.setCell ⟨X,5,none⟩ (i64 (-u1))).setCell ⟨X,6,none⟩ (i64 (1+u2))).setCell ⟨X,7,none⟩ (i64 u3)).setCell ⟨X,8,none⟩ (i64 1))=W7t at*;have wX:=ae KI;have Dn:=ae RF;have Lm:=ae IU;have kX:=ae M5;have tK:=ae RG
  clear KI RF IU M5 RG;go_wp2_with fail
  refine (Oh.o W7t kX.o Lm.o).mono ?_;rintro e W8 ⟨wa,ku,hs,rfl,AE,hI,hrg,Gm,M4,g_⟩;have Gn:=ae (Dn.o.but g_ qy);have CJ:aQ (W8.setCell ⟨X,11,none⟩ (.slice wa hs.length ku)) X 78 ({x3 with aa:=wa,ac:=ku,away:=hs}:aS).cells:=Gn.o.set 11 (.slice wa hs.length ku);have c11:=Gn.o.cl 11 (.slice x3.aa x3.away.length x3.ac) rfl;have f11:=Gn.o.frozen 11
  have Xb:Hid (bJ (W8.setCell ⟨X,11,none⟩ (.slice wa hs.length ku)) T a c l):=by
   obtain ⟨j,hj,hA⟩:=M4;exact ⟨j,hj,hA.other _ _ qy⟩
  have Oi:Hid (ar T V (W8.setCell ⟨X,11,none⟩ (.slice wa hs.length ku))):=(kX.o.trans g_).setCell (p:=⟨X,11,none⟩) EW.o _;have Xc:Hid (aQ (W8.setCell ⟨X,11,none⟩ (.slice wa hs.length ku)) R 78 kG.cells):=(tK.o.but g_ qN).other _ _ EU;have Xd:Hid (aI (W8.setCell ⟨X,11,none⟩ (.slice wa hs.length ku)) wa ku hs):=aI.dC hI ((ar.refl X W8).set rfl _) (fun p hp=>by have h1:=Gm p hp;have h2:=Dn.o.lt;omega);have zq:Hid (Fr V.heap.size wa):=Gm.mono kX.o.size;have Xe:Hid (∀p,wa=some p→p.block≠R):=fun p hp=>by have h1:=Gm p hp;have h2:=tK.o.lt;omega
  obtain ⟨x4,fl⟩: ∃x4:aS,x4={x3 with aa:=wa,ac:=ku,away:=hs}:=⟨_,rfl⟩;rw [←fl]at CJ
  have zl:Hid (p_ x4 i fr tb hours∧x4.aa=wa∧x4.ac=ku∧x4.away=hs):=by
   obtain ⟨h1,h2,h3,h4,⟨U3,U4,U5,RH,Xf,Xg,Xh⟩,h6,h7,h8,h9,h10⟩:=wX.o;rw [fl];exact ⟨⟨h1,h2,h3,h4,⟨U3,U4,U5,RH⟩,⟨Xf,Xg,Xh⟩,h6,h7,AE,hrg⟩,rfl,rfl,rfl⟩
  have HC:=ae CJ;clear AE hI hrg Gm M4 g_ Gn Dn Lm kX tK wX Oh gD CJ fl;go_upto_region 6 with fail
  clear c11 f11;generalize (W8.setCell ⟨X,11,none⟩ (.slice wa hs.length ku))=W9 at*;obtain ⟨c0,c1,c2,c3,c4,c5,c6,c7,c8,c9,c10,c11⟩:=aS.at HC.o;go_wp2_with (refine bp rfl 78 _ _ rfl R kG.cells x4.cells Xc.o rfl rfl (by kernel_rfl) rfl rfl ?_;intro qO kZ dI)
  have xe:=ae (Oi.o.over dI ET.o);have Dr:=ae (Xb.o.but dI (fun e=>qN e.symm))
  have Ds:Hid (aI qO wa ku hs):=Xd.o.dC dI Xe.o;obtain ⟨d0,d1,d2,d3,d4,d5,d6,d7,d8,d9,d10,d11⟩:=aS.at kZ;clear c0 c1 c2 c3 c4 c5 c6 c7 c8 c9 c10 c11 dI kZ;exact bodyPost_ret (v:= .agg x4.cells.toArray) (by simp [results,results34,go_sem,d0,d1,d2,d3,d4,d5,d6,d7,d8,d9,d10,d11,aS.cells]) rfl ⟨x4,rfl,zl.o.1,by rw [zl.o.2.1,zl.o.2.2.1,zl.o.2.2.2];exact Ds.o,by rw [zl.o.2.1];exact zq.o,Dr.o,xe.o⟩
 ·go_upto_region 5 with fail
  obtain ⟨x3,KI,RF,IU,M5,RG⟩: ∃x:aS,(x.name=aR 108 i∧x.cR=(fr:Int)∧x.kq=(tb:Int)∧(1≤x.rn∧x.rn≤4∧1≤x.rd∧x.rd≤2)∧(-3≤x.qD∧x.qD≤0∧1≤x.uf∧x.uf≤2∧0≤x.sk∧x.sk≤3∧x.wI=1)∧(4≤x.cY∧x.cY≤43)∧(x.cY≤x.jH∧x.jH≤62)∧x.away= []∧x.aa=none∧x.ac=0)∧aQ W7 X 78 x.cells∧bJ W7 T a c l∧ar T V W7∧aQ W7 R 78 kG.cells:=by
   obtain ⟨h1,h2,h3,h4,⟨U3,U4,U5,RH⟩,h6,h7,h8,h9,h10⟩:=zk.o;exact ⟨x2,⟨h1,h2,h3,h4,⟨by omega,by omega,by omega,by omega,by omega,by omega,RH⟩,h6,h7,h8,h9,h10⟩,UX.o,UZ.o,Od.o,UY.o⟩
  clear UX UZ Od UY zk;have wX:=ae KI;have Dn:=ae RF;have Lm:=ae IU;have kX:=ae M5;have tK:=ae RG
  clear KI RF IU M5 RG;go_wp2_with fail
  refine (Oh.o W7 kX.o Lm.o).mono ?_;rintro e W8 ⟨wa,ku,hs,rfl,AE,hI,hrg,Gm,M4,g_⟩;have Gn:=ae (Dn.o.but g_ qy);have CJ:aQ (W8.setCell ⟨X,11,none⟩ (.slice wa hs.length ku)) X 78 ({x3 with aa:=wa,ac:=ku,away:=hs}:aS).cells:=Gn.o.set 11 (.slice wa hs.length ku);have c11:=Gn.o.cl 11 (.slice x3.aa x3.away.length x3.ac) rfl;have f11:=Gn.o.frozen 11
  have Xb:Hid (bJ (W8.setCell ⟨X,11,none⟩ (.slice wa hs.length ku)) T a c l):=by
   obtain ⟨j,hj,hA⟩:=M4;exact ⟨j,hj,hA.other _ _ qy⟩
  have Oi:Hid (ar T V (W8.setCell ⟨X,11,none⟩ (.slice wa hs.length ku))):=(kX.o.trans g_).setCell (p:=⟨X,11,none⟩) EW.o _;have Xc:Hid (aQ (W8.setCell ⟨X,11,none⟩ (.slice wa hs.length ku)) R 78 kG.cells):=(tK.o.but g_ qN).other _ _ EU;have Xd:Hid (aI (W8.setCell ⟨X,11,none⟩ (.slice wa hs.length ku)) wa ku hs):=aI.dC hI ((ar.refl X W8).set rfl _) (fun p hp=>by have h1:=Gm p hp;have h2:=Dn.o.lt;omega);have zq:Hid (Fr V.heap.size wa):=Gm.mono kX.o.size;have Xe:Hid (∀p,wa=some p→p.block≠R):=fun p hp=>by have h1:=Gm p hp;have h2:=tK.o.lt;omega
  obtain ⟨x4,fl⟩: ∃x4:aS,x4={x3 with aa:=wa,ac:=ku,away:=hs}:=⟨_,rfl⟩;rw [←fl]at CJ
  have zl:Hid (p_ x4 i fr tb hours∧x4.aa=wa∧x4.ac=ku∧x4.away=hs):=by
   obtain ⟨h1,h2,h3,h4,⟨U3,U4,U5,RH,Xf,Xg,Xh⟩,h6,h7,h8,h9,h10⟩:=wX.o;rw [fl];exact ⟨⟨h1,h2,h3,h4,⟨U3,U4,U5,RH⟩,⟨Xf,Xg,Xh⟩,h6,h7,AE,hrg⟩,rfl,rfl,rfl⟩
  have HC:=ae CJ;clear AE hI hrg Gm M4 g_ Gn Dn Lm kX tK wX Oh gD CJ fl;go_upto_region 6 with fail
  clear c11 f11;generalize (W8.setCell ⟨X,11,none⟩ (.slice wa hs.length ku))=W9 at*;obtain ⟨c0,c1,c2,c3,c4,c5,c6,c7,c8,c9,c10,c11⟩:=aS.at HC.o;go_wp2_with (refine bp rfl 78 _ _ rfl R kG.cells x4.cells Xc.o rfl rfl (by kernel_rfl) rfl rfl ?_;intro qO kZ dI)
  have xe:=ae (Oi.o.over dI ET.o);have Dr:=ae (Xb.o.but dI (fun e=>qN e.symm))
  have Ds:Hid (aI qO wa ku hs):=Xd.o.dC dI Xe.o;obtain ⟨d0,d1,d2,d3,d4,d5,d6,d7,d8,d9,d10,d11⟩:=aS.at kZ;clear c0 c1 c2 c3 c4 c5 c6 c7 c8 c9 c10 c11 dI kZ;exact bodyPost_ret (v:= .agg x4.cells.toArray) (by simp [results,results34,go_sem,d0,d1,d2,d3,d4,d5,d6,d7,d8,d9,d10,d11,aS.cells]) rfl ⟨x4,rfl,zl.o.1,by rw [zl.o.2.1,zl.o.2.2.1,zl.o.2.2.2];exact Ds.o,by rw [zl.o.2.1];exact zq.o,Dr.o,xe.o⟩
end Go.Proofs.YtkpngkdgphojlaaGreat
