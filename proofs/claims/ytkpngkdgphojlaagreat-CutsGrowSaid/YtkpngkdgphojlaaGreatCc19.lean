/- Texts of the proof. -/
import Derived.Laws.Tables
import Derived.Test.YtkpngkdgphojlaaGreatCc10
set_option linter.all false
namespace Go.Proofs.YtkpngkdgphojlaaGreat
open Go.RowKit
def bn (w:World) (T:Nat) (a:Option Addr) (c:Nat) (l:List Int):Prop:= ∃i:Nat,i≤l.length∧aG w T 135 [.slice a l.length c,i64 i]
theorem bn.ext {w w':World} {T:Nat} {a:Option Addr} {c:Nat} {l:List Int} (h:bn w T a c l) (e:Ext w w'):bn w' T a c l:=by
 obtain ⟨i,h1,h2⟩:=h;exact ⟨i,h1,h2.ext e⟩
theorem bn.lt {w:World} {T:Nat} {a:Option Addr} {c:Nat} {l:List Int} (h:bn w T a c l):T<w.heap.size:=by
 obtain ⟨i,h1,h2⟩:=h;exact h2.lt
theorem bn.keep {w w':World} {T:Nat} {a:Option Addr} {c:Nat} {l:List Int} (h:bn w T a c l) (e:w'.heap[T]?=w.heap[T]?):bn w' T a c l:=by
 obtain ⟨i,h1,h2⟩:=h;exact ⟨i,h1,h2.keep e⟩
theorem bn.but {w w':World} {T K:Nat} {a:Option Addr} {c:Nat} {l:List Int} (h:bn w T a c l) (e:ak K w w') (hk:T≠K):bn w' T a c l:=h.keep (e.block T h.lt hk)
set_option maxRecDepth 100000 in
theorem GW (V:World) (a:Option Addr) (c:Nat) (l:List Int):
 Calls Tryz.prog 30 #[.slice a l.length c] V fun e w'=>e= .returned (.pointer (some ⟨V.heap.size,0,none⟩))∧bn w' V.heap.size a c l∧Ext V w':=by
 go_enter Tryz.func30,Tryz.ntmps30
 go_wp2_with fail
 go_ret;exact ⟨rfl,⟨0,Nat.zero_le _,aG.alloc V 135 [.slice a l.length c,i64 0]⟩,(Ext.refl V).alloc _⟩
def ke (V:World) (T:Nat) (a:Option Addr) (c:Nat) (l:List Int) (w':World):Prop:=bn w' T a c l∧ak T V w'
set_option maxHeartbeats 1000000 in
set_option maxRecDepth 100000 in
theorem sF (w0 V:World) (T:Nat) (a:Option Addr) (c:Nat) (l:List Int) (n:Int) (hK:w0.heap.size≤T) (hV:Ext w0 V) (hl:aA w0 a c l) (hT:bn V T a c l) (hn:0<n) (Ab:n<1000000):
 Calls Tryz.prog 31 #[.pointer (some ⟨T,0,none⟩),i64 n] V fun e w'=> ∃v:Int,e= .returned (i64 v)∧(0≤v∧v<n)∧ke V T a c l w':=by
 have hle:=hl.le;have di:=hl.cap
 obtain ⟨i,hi,hA⟩:=hT;have c0:V.cell? ⟨T,0,none⟩=some (.slice a l.length c):=(hA.cell 0).trans rfl;have c1:V.cell? ⟨T,1,none⟩=some (i64 (i:Int)):=(hA.cell 1).trans rfl;have f1:V.frozen? ⟨T,1,none⟩=false:=hA.frozen 1;have HA:=ae hA;have HN:=ae (And.intro hn Ab)
 by_cases hlt:i<l.length
 ·have ht:decide ((l.length:Int)≤(i:Int))=false:=by simp;omega
  obtain ⟨ab,ao,ha,i0⟩:=(hl.ext hV).cell i hlt;have hrg:=(hl.ext hV).OT i hlt
  have hTb:ab≠T:=by
   obtain ⟨b3,o3,h3,q0⟩:=hl.cell i hlt;rw [ha]at h3;cases h3
   have:=cU q0;simp only at this;omega
  obtain ⟨v,hv⟩: ∃v,v=l[i]:=⟨_,rfl⟩;rw [←hv]at i0 hrg;have nY:Hid (aG ((V.setCell ⟨T,1,none⟩ (i64 ((i+1:Nat):Int))).drew) T 135 [.slice a l.length c,i64 ((i+1:Nat):Int)]):=(HA.out.set 1 (i64 ((i+1:Nat):Int))).ext (Ext.refl _).drew;have eE:IntKind.i64.wrap ((i:Int)+1)=((i+1:Nat):Int):=by rw [IntKind.wrap_i64];omega
  have hw2:IntKind.i64.wrap (((i+1:Nat):Int)-1)=(i:Int):=by rw [IntKind.wrap_i64];omega
  have hw3:IntKind.i64.wrap (i:Int)=(i:Int):=by rw [IntKind.wrap_i64];omega
  have j0:(V.setCell ⟨T,1,none⟩ (i64 ((i+1:Nat):Int))).drew.cell? ⟨ab,ao+i,none⟩=some (i64 v):=by
   have h5:(V.setCell ⟨T,1,none⟩ (i64 ((i+1:Nat):Int))).cell? ⟨ab,ao+i,none⟩=some (i64 v):=by rw [World.cell?_setCell_far _ _ _ _ (fun e=>hTb e.symm)];exact i0
   exact h5
  have d0:(V.setCell ⟨T,1,none⟩ (i64 ((i+1:Nat):Int))).drew.cell? ⟨T,0,none⟩=some (.slice a l.length c):=(nY.out.cell 0).trans rfl;have d1:(V.setCell ⟨T,1,none⟩ (i64 ((i+1:Nat):Int))).drew.cell? ⟨T,1,none⟩=some (i64 ((i+1:Nat):Int)):=(nY.out.cell 1).trans rfl;have U6:=ae (fun U=>yb U v n hrg.1 (by omega) hn Ab);have HMR:=ae (sQ v n hn);have fM:(0:Int)≤(i:Int):=by omega
  have fH:(i:Int)<(l.length:Int):=by omega
  have HX:Hid (ak T V ((V.setCell ⟨T,1,none⟩ (i64 ((i+1:Nat):Int))).drew.drew)):=((ak.refl T V).et.trans ((Ext.refl _).drew.drew.but T));subst ha;clear hA hl hV hK hn Ab hv hrg i0;go_enter Tryz.func31,Tryz.ntmps31
  go_wp2_with fail
  refine ay (fun w'=>w'.cell? ⟨T,0,none⟩=some (.slice (some ⟨ab,ao,none⟩) l.length c)∧w'.cell? ⟨T,1,none⟩=some (i64 (i:Int))) (fun w'=>True) (fun i=>false) (by kernel_rfl) (⟨c0,c1⟩) (trivial) (fun ar ah=> ?_);refine av 0 (.pointer (some ⟨T,0,none⟩)) rfl ar ah ?_;simp only [sS];refine av 1 (.pointer (some ⟨T,0,none⟩)) rfl ar ah ?_;simp only [sS];refine av 2 (.pointer (some ⟨T,1,none⟩)) rfl ar ah ?_;simp only [sS];refine av 3 (i64 (i:Int)) rfl ar ah ?_;simp only [sS];refine av 4 (.pointer (some ⟨T,0,none⟩)) rfl ar ah ?_;simp only [sS];refine av 5 (.pointer (some ⟨T,0,none⟩)) rfl ar ah ?_;simp only [sS];refine av 6 (.pointer (some ⟨T,0,none⟩)) rfl ar ah ?_;simp only [sS];refine av 7 (.slice (some ⟨ab,ao,none⟩) l.length c) rfl ar ah ?_;simp only [sS];refine av 8 (.int .i64 (l.length:Int)) rfl ar ah ?_;simp only [sS];refine av 9 (.bool false) rfl ar ah ?_;simp only [sS];refine ax (by kernel_rfl) ?_ _;clear ar ah;clear ht;go_wp2_with fail
  refine ay (fun w'=>w'.cell? ⟨T,0,none⟩=some (.slice (some ⟨ab,ao,none⟩) l.length c)∧w'.cell? ⟨T,1,none⟩=some (i64 ((i+1:Nat):Int))∧w'.cell? ⟨ab,ao+i,none⟩=some (i64 v)) (fun w'=>True) (fun i=>false) (by kernel_rfl) (⟨d0,d1,j0⟩) (trivial) (fun ar ah=> ?_);refine av 0 (.pointer (some ⟨T,0,none⟩)) rfl ar ah ?_;simp only [sS];refine av 1 (.pointer (some ⟨T,0,none⟩)) rfl ar ah ?_;simp only [sS];refine av 2 (.pointer (some ⟨T,0,none⟩)) rfl ar ah ?_;simp only [sS];refine av 3 (.slice (some ⟨ab,ao,none⟩) l.length c) rfl ar ah ?_;simp only [sS];refine av 4 (.pointer (some ⟨T,0,none⟩)) rfl ar ah ?_;simp only [sS];refine av 5 (.pointer (some ⟨T,0,none⟩)) rfl ar ah ?_;simp only [sS];refine av 6 (.pointer (some ⟨T,1,none⟩)) rfl ar ah ?_;simp only [sS];refine av 7 (i64 ((i+1:Nat):Int)) rfl ar ah ?_;simp only [sS];refine av 8 (.int .i64 (i:Int)) rfl ar ah ?_;simp only [sS];refine av 9 (.pointer (some ⟨ab,ao+i,none⟩)) rfl ar ah ?_;simp only [sS];refine av 10 (i64 v) rfl ar ah ?_;simp only [sS];refine av 11 (i64 n) rfl ar ah ?_;simp only [sS];refine cG 12 rfl (fun Kc hK=> ?_);go_simp;refine (U6.out _).mono ?_;rintro e z1 ⟨rfl,rfl⟩;refine hK.out _ _ (⟨d0,d1,j0⟩) (trivial) (fun ar ah=> ?_);clear hK Kc;try simp only [sS]
  refine av 13 (i64 (ya v n)) rfl ar ah ?_;simp only [sS];refine ax (by kernel_rfl) ?_ _;clear ar ah;go_wp2_with fail
  go_ret;exact ⟨ya v n,rfl,HMR.out,⟨i+1,by omega,nY.out.ext (Ext.refl _).drew⟩,HX.out⟩
 ·obtain rfl:i=l.length:=by omega
  have ht:decide ((l.length:Int)≤(l.length:Int))=true:=by simp
  clear hA hl hV hK hn Ab;go_enter Tryz.func31,Tryz.ntmps31
  go_wp2_with fail
  refine ay (fun w'=>w'.cell? ⟨T,0,none⟩=some (.slice a l.length c)∧w'.cell? ⟨T,1,none⟩=some (i64 (l.length:Int))) (fun w'=>True) (fun i=>false) (by kernel_rfl) (⟨c0,c1⟩) (trivial) (fun ar ah=> ?_);refine av 0 (.pointer (some ⟨T,0,none⟩)) rfl ar ah ?_;simp only [sS];refine av 1 (.pointer (some ⟨T,0,none⟩)) rfl ar ah ?_;simp only [sS];refine av 2 (.pointer (some ⟨T,1,none⟩)) rfl ar ah ?_;simp only [sS];refine av 3 (i64 (l.length:Int)) rfl ar ah ?_;simp only [sS];refine av 4 (.pointer (some ⟨T,0,none⟩)) rfl ar ah ?_;simp only [sS];refine av 5 (.pointer (some ⟨T,0,none⟩)) rfl ar ah ?_;simp only [sS];refine av 6 (.pointer (some ⟨T,0,none⟩)) rfl ar ah ?_;simp only [sS];refine av 7 (.slice a l.length c) rfl ar ah ?_;simp only [sS];refine av 8 (.int .i64 (l.length:Int)) rfl ar ah ?_;simp only [sS];refine av 9 (.bool true) rfl ar ah ?_;simp only [sS];refine ax (by kernel_rfl) ?_ _;clear ar ah;go_wp2_with fail
  go_ret;exact ⟨0,rfl,⟨Int.le_refl _,HN.out.1⟩,⟨l.length,Nat.le_refl _,HA.out.ext (Ext.refl _).drew⟩,(Ext.refl V).drew.but T⟩
set_option maxHeartbeats 1000000 in
set_option maxRecDepth 100000 in
theorem jO (w0 V:World) (T:Nat) (a:Option Addr) (c:Nat) (l:List Int) (n:Nat) (m:Int) (hK:w0.heap.size≤T) (hV:Ext w0 V) (hl:aA w0 a c l) (hT:bn V T a c l) (hn:n≤1000) (hm:0<m) (rk:m<1000000):
 Calls Tryz.prog 32 #[.pointer (some ⟨T,0,none⟩),.int .i64 (n:Int),i64 m] V fun e w'=> ∃b cap hs,e= .returned (.slice b n cap)∧hs.length=n∧aA w' b cap hs∧(∀x∈hs,0≤x∧x<m)∧Fr V.heap.size b∧ke V T a c l w':=by
 have eQ:=ae (fun U (hx:ak T V U) (hU:bn U T a c l)=>sF w0 U T a c l m hK (hx.ext hV hK) hl hU hm rk);have HT:=ae hT;have JL:=ae hT.lt;have U7:=ae rk;clear hl hV hK hT hm rk;go_enter Tryz.func32,Tryz.ntmps32
 go_wp2_with fail
 go_loopw [7,8] (fun v ii wr=> ∃(i:Nat) (hs:List Int),i≤n∧hs.length=i∧(∀x∈hs,0≤x∧x<m)∧aH wr V.heap.size 3 1 v (dp hs)∧ke V T a c l wr∧ii= .int .i64 i) (fun _ ii _=>n-(intOf ii).toNat)
 case atStart=>exact ⟨0,[],Nat.zero_le _,rfl,fun x hx=>absurd hx (by simp),aH.nil _ _ _ _,⟨HT.out,ak.refl _ _⟩,rfl⟩
 case round=>
  obtain ⟨i,hs,hi,oK,hrg,hown,⟨hT,hx⟩,rfl⟩:=hrel;clear HT;by_cases hlt:i<n
  ·have fH:(i:Int)<(n:Int):=by omega
   have HN:=ae (eQ.out wr hx hT);have HO:=ae hown;have HX:=ae hx;have Og:=ae hrg;have SQ:=ae oK
   clear hown hx hT hrg oK;go_wp2_with fail
   refine HN.out.mono ?_;rintro e W1 ⟨v,rfl,hv,Gb,hx1⟩;have S7:=ae hv;have rL:=ae Gb;have eK:=ae (HX.out.trans hx1)
   have JM:Hid (aH W1 V.heap.size 3 1 u7 (dp hs)):=HO.out.but hx1 JL.out
   have HOW:Hid (W1.ownsRow V.heap.size 3 1 u7 hs.length (dp hs).flatten):=by
    have h5:=JM.out.own;rw [dh]at h5;exact h5
   have hsz:=eK.out.size;clear hv Gb hx1 HN;go_wp2_with (at_builtin;refine aV _ rfl (.tmp 14) (.tmp 18) 22 rfl V.heap.size 3 (.int .i64 0) 1 8 Tryz.underlying22 Tryz.info_int rfl (by decide) u7 hs.length (dp hs).flatten rfl ?c1 (some ⟨W1.heap.size,0,none⟩) 1 1 [i64 v] rfl rfl ?c2 ?c3 ?c4 ?c5 (by decide) ?c6 ?_;rotate_right;intro v1 w5 ho he hb hz hv)
   case c1=>exact bG HOW.out ((Ext.refl _).alloc _)
   case c2=>exact fun _=>⟨_,rfl,cC W1 3 [i64 v]⟩
   case c3=>intro u hu;rw [List.mem_singleton]at hu;subst hu;rfl
   case c4=>intro e;cases e
   case c5=>have:=SQ.out;omega
   case c6=>simp;omega
   have lx:=HOW.out.lt;have nj:(W1.alloc (.cells #[i64 v] 3)).heap.size=W1.heap.size+1:=by simp
   have U8:=JL.out;have xT:bn w5 T a c l:=bn.keep (rL.out.ext ((Ext.refl W1).alloc _)) (hb.out T (by have:=rL.out.lt;omega) (fun e=>by have:=(lx T e.symm).1;omega));have xX:ak T V w5:=ak.append (eK.out.alloc' _) (Nat.le_refl _) (fun k e=>(lx k e).1) he.out hb.out hz.out;have iC:=JM.out.snoc (w':=w5) (v':=v1) (r:= [i64 v]) rfl (by rw [dh];exact ho.out);rw [←o8]at iC;have HR:=ae (And.intro iC (And.intro xT xX))
   have Ov:Hid (∀x∈hs++ [v],0≤x∧x<m):=fun x hx=>by
    rcases List.mem_append.1 hx with h|h
    ·exact Og.out x h
    ·rw [List.mem_singleton]at h;rw [h];exact S7.out
   clear xT xX iC nj lx ho he hb hz hv U8;exact ⟨⟨i+1,hs++ [v],by omega,by rw [List.length_append,SQ.out];rfl,Ov.out,HR.out.1,HR.out.2,by go_num⟩,by simp only [intOf];omega⟩
  ·obtain rfl:i=n:=by omega
   obtain ⟨b,cap,rfl,hS,jU⟩:=hown.recs (by decide);rw [dh,oK];have HI:Hid (aA wr b cap hs):=aA.kn hS (fun z hz=>by have:=hrg z hz;have:=U7.out;unfold br;omega);have HR:=ae (And.intro oK (And.intro hrg (And.intro jU (And.intro hT hx))));clear hown hS jU hT hx hrg oK;go_wp2_with fail
   go_ret;exact ⟨b,cap,hs,rfl,HR.out.1,HI.out,HR.out.2.1,HR.out.2.2.1,HR.out.2.2.2⟩
set_option maxHeartbeats 1000000 in
set_option maxRecDepth 100000 in
theorem CJ (w0 V:World) (T:Nat) (a:Option Addr) (c:Nat) (l:List Int) (n:Int) (hK:w0.heap.size≤T) (hV:Ext w0 V) (hl:aA w0 a c l) (hT:bn V T a c l) (hn:0<n) (Ab:n<1000000):
 Calls Tryz.prog 77 #[.pointer (some ⟨T,0,none⟩),i64 n] V fun e w'=> ∃b cap hs,e= .returned (.slice b hs.length cap)∧(hs.length≤1∧(hs= []→b=none))∧aA w' b cap hs∧(∀x∈hs,0≤x∧x<n)∧Fr V.heap.size b∧ke V T a c l w':=by
 have FT:=ae (sF w0 V T a c l 6 hK hV hl hT (by decide) (by decide));have Cq:=ae (fun U (hx:ak T V U) (hU:bn U T a c l)=>sF w0 U T a c l n hK (hx.ext hV hK) hl hU hn Ab);have HN:=ae Ab;clear hK hV hl hT hn Ab;go_enter Tryz.func77,Tryz.ntmps77
 go_wp2_with fail
 refine FT.out.mono ?_;rintro e W1 ⟨v,rfl,hv,Gb,hx1⟩;have rL:=ae Gb;have eK:=ae hx1
 have hsz:=hx1.size;clear Gb hx1 FT;rcases Bool.eq_false_or_eq_true (v==5)with h5|h5
 ·have Cq:=ae (Cq.out W1 eK.out rL.out)
  clear hv;go_wp2_with fail
  refine Cq.out.mono ?_;rintro e W2 ⟨x,rfl,Yi,Jq,hx2⟩;have Yj:=ae Yi;have ku:=ae Jq;have dC:=ae (eK.out.trans hx2)
  have U9:=Nat.le_trans hsz hx2.size;clear Yi Jq hx2 hsz Cq;go_wp2_with fail
  go_ret;refine ⟨some ⟨W2.heap.size,0,none⟩,1,[x],rfl,⟨Nat.le_refl _,fun q=>absurd q (by simp)⟩,aA.one W2 x (by have:=Yj.out;have:=HN.out;unfold br;omega),fun z hz=> ?_,Fr.some U9,ku.out.ext ((Ext.refl W2).alloc _),dC.out.alloc' _⟩;rw [List.mem_singleton]at hz;rw [hz];exact Yj.out
 ·clear hv
  go_wp2_with fail
  go_ret;exact ⟨none,0,[],rfl,⟨Nat.zero_le _,fun _=>rfl⟩,⟨Nat.le_refl _,by decide,fun i hi=>absurd hi (Nat.not_lt_zero _),fun i hi=>absurd hi (Nat.not_lt_zero _)⟩,fun z hz=>absurd hz (by simp),Fr.none _,rL.out,eK.out⟩
def DY:ByteArray:={data:= #[48,49,50,51,52,53,54,55,56,57,97,98,99,100,101,102]}
def aL (k:UInt8) (i:Nat):ByteArray:={data:= #[k]}++DY.extract i (i+1)
set_option maxRecDepth 100000 in
theorem sG (w:World) (k:UInt8) (i:Nat) (hi:i<16):
 Calls Tryz.prog 33 #[.string {data:= #[k]},.int .i64 (i:Int)] w fun e w'=>e= .returned (.string (aL k i))∧w'=w:=by
 have h1:Int.tmod (i:Int) 16=(i:Int):=by rw [Int.tmod_eq_emod_of_nonneg (by omega)];omega
 have h2:IntKind.i64.wrap (i:Int)=(i:Int):=by rw [IntKind.wrap_i64];omega
 have h3:IntKind.i64.wrap ((i:Int)+1)=((i+1:Nat):Int):=by rw [IntKind.wrap_i64];omega
 go_enter Tryz.func33,Tryz.ntmps33
 go_wp2_with fail
 go_ret;exact ⟨rfl,rfl⟩
theorem mQ (k:UInt8) (i:Nat) (hi:i<16):(aL k i).data= #[k,DY.data[i]!]:=by
 have h:i=0∨i=1∨i=2∨i=3∨i=4∨i=5∨i=6∨i=7∨i=8∨i=9∨i=10∨i=11∨i=12∨i=13∨i=14∨i=15:=by omega
 rcases h with rfl|rfl|rfl|rfl|rfl|rfl|rfl|rfl|rfl|rfl|rfl|rfl|rfl|rfl|rfl|rfl<;>rfl
theorem kf (k:UInt8) (i:Nat) (hi:i<16):(aL k i).size=2:=by
 show(aL k i).data.size=2;rw [mQ k i hi];rfl
theorem ak.over {K R:Nat} {V W w':World} (h:ak K V W) (k:ak R W w') (hR:V.heap.size≤R):ak K V w':=
 ⟨k.os.trans h.os,k.tape.trans h.tape,k.output.trans h.output,Nat.le_trans h.drawn k.drawn,Nat.le_trans h.size k.size,fun x hx hK=>by
   have:=h.size;rw [k.block x (by omega) (by omega)];exact h.block x hx hK⟩
section
variable{P:Program}
theorem bF {ops:Array Oper} {rest:List Oper} {o:Oper} {a:Act} {w:World} {Q:Exit→Act→World→Prop} (hgd:o.guard=none) (ty:TypeId) (x y:Operand) (ho:o.op= .store ty x y)
 (R:Nat) (cs cs':List Value) (hA:aG w R ty cs) (hx:a.eval x= .pointer (some ⟨R,0,none⟩)) (hy:a.eval y= .agg cs'.toArray) (hi:(P.info? ty).map (·.size)=some cs'.length) (hold:cs.length=cs'.length) (h1:cs'.all (·.oneCell')=true)
 (h: ∀w',aG w' R ty cs'→ak R w w'→wpList P ops Q rest (a.put o.dst undef) w'):wpList P ops Q (o::rest) a w:=
 wpList_plain hgd fun K hK=>by
  have hr:=run_storeVar_row (P:=P) w R ty ty cs.toArray cs'.toArray hA (by simpa using hi) (by simpa using hold) (by simpa using h1);unfold Oper.wp execOp;simp only [ho,hx,hy,Instr.storeAt,Instr.sureAddr,Sem.run_bind,Sem.run_pure,Result.andThen_ok,hr];refine hK _ _ (h _ ?_ ?_)
  ·exact setRow_heap w R cs.toArray cs'.toArray ty (0,0) hA
  ·refine ⟨rfl,rfl,rfl,Nat.le_refl _,by simp [World.setRow],fun k hk hne=> ?_⟩
   simp [World.setRow,Array.getElem?_modify,Ne.symm hne]
end
structure oy (x:aS) (i fr tb:Nat) (hours:Int):Prop where
 name:x.name=aL 108 i
 cd:x.cd=(fr:Int)
 ie:x.ie=(tb:Int)
 r:1≤x.rn∧x.rn≤4∧1≤x.rd∧x.rd≤2
 s0: -3≤x.iH∧x.iH≤0∧1≤x.kq∧x.kq≤2
 s1:0≤x.iO∧x.iO≤3∧x.lg=1
 cf:4≤x.cf∧x.cf≤43
 gw:x.cf≤x.gw∧x.gw≤62
 MV:x.away.length≤1∧(x.away= []→x.aa=none)
 away: ∀z∈x.away,0≤z∧z<hours
def kg:aS:=⟨{data:= #[]},0,0,0,0,0,0,0,0,0,0,none,0,[]⟩
def eu (w0 V:World) (T:Nat) (a:Option Addr) (c:Nat) (l:List Int):Prop:= ∀(U:World) (m:Int),ak T V U→bn U T a c l→0<m→m<1000000→Calls Tryz.prog 31 #[.pointer (some ⟨T,0,none⟩),i64 m] U fun e w'=> ∃v:Int,e= .returned (i64 v)∧(0≤v∧v<m)∧ke U T a c l w'
theorem eu.of (w0 V:World) (T:Nat) (a:Option Addr) (c:Nat) (l:List Int) (hK:w0.heap.size≤T) (hV:Ext w0 V) (hl:aA w0 a c l):eu w0 V T a c l:=
 fun U m hx hU h1 h2=>sF w0 U T a c l m hK (hx.ext hV hK) hl hU h1 h2
set_option maxHeartbeats 2000000 in
set_option maxRecDepth 100000 in
theorem CK (w0 V:World) (T:Nat) (a:Option Addr) (c:Nat) (l:List Int) (i fr tb:Nat) (hours:Int) (hK:w0.heap.size≤T) (hV:Ext w0 V) (hl:aA w0 a c l) (hT:bn V T a c l) (hi:i<16) (hh:0<hours) (SY:hours<1000):
 Calls Tryz.prog 34 #[.pointer (some ⟨T,0,none⟩),.int .i64 (i:Int),.int .i64 (fr:Int),.int .i64 (tb:Int),i64 hours] V fun e w'=> ∃x:aS,e= .returned (.agg x.cells.toArray)∧oy x i fr tb hours∧aA w' x.aa x.ac x.away∧Fr V.heap.size x.aa∧ke V T a c l w':=by
 have eQ:=ae (eu.of w0 V T a c l hK hV hl);have JD:=ae (fun U (hx:ak T V U) (hU:bn U T a c l)=>CJ w0 U T a c l hours hK (hx.ext hV hK) hl hU hh (by omega));have Az:=ae (fun U=>sG U 108 i hi);have HT:=ae hT;have JL:=ae hT.lt;clear hK hV hl hT hi hh SY;go_enter Tryz.func34,Tryz.ntmps34
 go_upto_region 1 with fail
 obtain ⟨W0,hW,x0,Z0,A0⟩:=aB V 78 kg.cells;rw [show V.alloc (.cells #[.string {data:= #[]},i64 0,i64 0,i64 0,i64 0,i64 0,i64 0,i64 0,i64 0,i64 0,i64 0,.slice none 0 0] 78)=W0 from hW.symm];obtain ⟨R,hR⟩: ∃R,R=V.heap.size:=⟨_,rfl⟩;rw [←hR]at A0⊢;have pA:R≠T:=by have:=JL.out;omega
 have xP:Hid (V.heap.size≤R):=by show _≤_;omega
 have HR:=ae A0;have HX:=ae (x0.but T);have HT:=ae (HT.out.ext x0)
 clear hW Z0 A0 hR x0;go_wp2_with fail
 refine (Az.out W0).mono ?_;rintro e w1 ⟨rfl,eE⟩;rw [eE];clear eE
 go_wp2_with fail
 refine (eQ.out W0 4 HX.out HT.out (by decide) (by decide)).mono ?_;rintro e W1 ⟨v1,rfl,nB,Gb,hx1⟩;have eK:=ae (HX.out.trans hx1);go_wp2_with fail
 refine (eQ.out W1 2 eK.out Gb (by decide) (by decide)).mono ?_;rintro e W2 ⟨v2,rfl,hv2,Jq,hx2⟩;have dC:=ae (eK.out.trans hx2);go_wp2_with fail
 refine (eQ.out W2 40 dC.out Jq (by decide) (by decide)).mono ?_;rintro e W3 ⟨v3,rfl,hv3,Gc,hx3⟩;have jY:=ae (dC.out.trans hx3);have qR:=ae (((HR.out.but hx1 pA).but hx2 pA).but hx3 pA);have GG:=ae Gc;have q1:IntKind.i64.wrap (1+v1)=1+v1:=by rw [IntKind.wrap_i64];omega
 have q2:IntKind.i64.wrap (1+v2)=1+v2:=by rw [IntKind.wrap_i64];omega
 have q3:IntKind.i64.wrap (4+v3)=4+v3:=by rw [IntKind.wrap_i64];omega
 clear Gb Jq Gc hx1 hx2 hx3 eK dC HX HT HR;obtain ⟨x1,hx1⟩: ∃x1:aS,x1=⟨aL 108 i,(fr:Int),(tb:Int),1+v1,1+v2,0,1,0,1,4+v3,0,none,0,[]⟩:=⟨_,rfl⟩
 have kt:Hid (x1.name=aL 108 i∧x1.cd=(fr:Int)∧x1.ie=(tb:Int)∧(1≤x1.rn∧x1.rn≤4∧1≤x1.rd∧x1.rd≤2)∧(x1.iH=0∧x1.kq=1∧x1.iO=0∧x1.lg=1)∧(4≤x1.cf∧x1.cf≤43)∧x1.away= []∧x1.aa=none∧x1.ac=0):=by
  rw [hx1];exact ⟨rfl,rfl,rfl,⟨by simp only;omega,by simp only;omega,by simp only;omega,by simp only;omega⟩,⟨rfl,rfl,rfl,rfl⟩,⟨by simp only;omega,by simp only;omega⟩,rfl,rfl,rfl⟩
 clear nB hv2 hv3;go_upto_region 2 with fail
 obtain ⟨W4,K6,x4,Z4,A4⟩:=aB W3 78 x1.cells;rw [show W3.alloc (.cells #[.string (aL 108 i),i64 (fr:Int),i64 (tb:Int),i64 (1+v1),i64 (1+v2),i64 0,i64 1,i64 0,i64 1,i64 (4+v3),i64 0,.slice none 0 0] 78)=W4 from by rw [K6,hx1];rfl];obtain ⟨X,hX⟩: ∃X,X=W3.heap.size:=⟨_,rfl⟩;rw [←hX]at A4⊢;have oM:X≠T:=by have:=GG.out.lt;omega
 have CL:X≠R:=by have:=qR.out.lt;omega
 have ET:Hid (V.heap.size≤X):=by show _≤_;rw [hX];exact jY.out.size
 have vI:=ae A4;have nK:=ae (jY.out.trans (x4.but T));have Yk:=ae (GG.out.ext x4);have Yl:=ae (qR.out.ext x4)
 clear K6 hX Z4 A4 x4 hx1 q1 q2 q3 jY GG qR Az;have c9:=vI.out.cl 9 (i64 x1.cf) rfl;refine ay (fun w'=>w'.cell? ⟨X,9,none⟩=some (i64 x1.cf)) (fun w'=>True) (fun i=>false) (by kernel_rfl) (c9) (trivial) (fun ar ah=> ?_);refine av 0 (.pointer (some ⟨X,9,none⟩)) rfl ar ah ?_;simp only [sS];refine av 1 (i64 x1.cf) rfl ar ah ?_;simp only [sS];refine av 2 (.pointer (some ⟨T,0,none⟩)) rfl ar ah ?_;simp only [sS];refine cG 3 rfl (fun Kc hK=> ?_);go_simp;refine (eQ.out W4.drew 20 (nK.out.trans ((Ext.refl W4).drew.but T)) (Yk.out.ext (Ext.refl _).drew) (by decide) (by decide)).mono ?_;rintro e W5 ⟨v4,rfl,hv4,Ql,dA⟩;refine hK.out _ _ (aR (ai (Ext.refl W4).drew c9) dA oM) (trivial) (fun ar ah=> ?_);clear hK Kc;try simp only [sS]
 have q4:IntKind.i64.wrap (x1.cf+v4)=x1.cf+v4:=by rw [IntKind.wrap_i64];have:=kt.out.2.2.2.2.2.1;omega
 refine av 4 (i64 (x1.cf+v4)) rfl ar ah ?_;simp only [sS];refine av 5 (.pointer (some ⟨X,10,none⟩)) rfl ar ah ?_;simp only [sS];have Cl:W5.cell? ⟨X,10,none⟩=some (i64 x1.gw):=(((vI.out.ext (Ext.refl _).drew).but dA oM).cell 10).trans rfl;have f10:W5.frozen? ⟨X,10,none⟩=false:=((vI.out.ext (Ext.refl _).drew).but dA oM).frozen 10;have e9:(W5.setCell ⟨X,10,none⟩ (i64 (x1.cf+v4))).cell? ⟨X,9,none⟩=some (i64 x1.cf):=((((vI.out.ext (Ext.refl _).drew).but dA oM).set 10 (i64 (x1.cf+v4))).cell 9).trans rfl;refine cG 6 rfl (fun Kc hK=> ?_);go_simp;refine hK.out _ _ (e9) (trivial) (fun ar ah=> ?_);clear hK Kc;try simp only [sS]
 refine ax (by kernel_rfl) ?_ _;clear ar ah Cl f10 e9;have KZ:Hid (aG (W5.setCell ⟨X,10,none⟩ (i64 (x1.cf+v4))) X 78 ({x1 with gw:=x1.cf+v4}:aS).cells):=((vI.out.ext (Ext.refl _).drew).but dA oM).set 10 (i64 (x1.cf+v4))
 have Ym:Hid (bn (W5.setCell ⟨X,10,none⟩ (i64 (x1.cf+v4))) T a c l):=by
  obtain ⟨j,hj,hA⟩:=Ql;exact ⟨j,hj,hA.other _ _ oM⟩
 have su:Hid (ak T V (W5.setCell ⟨X,10,none⟩ (i64 (x1.cf+v4)))):=((nK.out.trans ((Ext.refl W4).drew.but T)).trans dA).setCell (p:=⟨X,10,none⟩) ET.out _;have Yn:Hid (aG (W5.setCell ⟨X,10,none⟩ (i64 (x1.cf+v4))) R 78 kg.cells):=((Yl.out.ext (Ext.refl _).drew).but dA pA).other _ _ CL;obtain ⟨x2,hx2⟩: ∃x2:aS,x2={x1 with gw:=x1.cf+v4}:=⟨_,rfl⟩
 have j4:Hid (x2.name=aL 108 i∧x2.cd=(fr:Int)∧x2.ie=(tb:Int)∧(1≤x2.rn∧x2.rn≤4∧1≤x2.rd∧x2.rd≤2)∧(x2.iH=0∧x2.kq=1∧x2.iO=0∧x2.lg=1)∧(4≤x2.cf∧x2.cf≤43)∧(x2.cf≤x2.gw∧x2.gw≤62)∧x2.away= []∧x2.aa=none∧x2.ac=0):=by
  obtain ⟨h1,h2,h3,h4,h5,h6,h7,h8,h9⟩:=kt.out;rw [hx2];exact ⟨h1,h2,h3,h4,h5,h6,⟨by simp only;omega,by simp only;omega⟩,h7,h8,h9⟩
 rw [←hx2]at KZ;clear hx2 hv4 q4 c9 Ql dA vI nK Yk Yl kt;generalize (W5.setCell ⟨X,10,none⟩ (i64 (x1.cf+v4)))=W6 at*;go_wp2_with fail
 refine (eQ.out W6 5 su.out Ym.out (by decide) (by decide)).mono ?_;rintro e W7 ⟨v5,rfl,hv5,Yo,j6⟩;have S8:=ae (KZ.out.but j6 oM);have S9:=ae (Yn.out.but j6 pA);have ID:=ae (su.out.trans j6);have S_:=ae Yo
 clear Yo j6 hv5 KZ Yn su Ym;rcases Bool.eq_false_or_eq_true (v5==4)with h4|h4
 ·go_wp2_with fail
  refine (eQ.out W7 4 ID.out S_.out (by decide) (by decide)).mono ?_;rintro e W8 ⟨u1,rfl,hu1,K7,fF⟩;have JN:=ae (ID.out.trans fF);go_wp2_with fail
  refine (eQ.out W8 2 JN.out K7 (by decide) (by decide)).mono ?_;rintro e W9 ⟨u2,rfl,JO,Qm,iD⟩;have Ai:=ae (JN.out.trans iD);go_wp2_with fail
  refine (eQ.out W9 4 Ai.out Qm (by decide) (by decide)).mono ?_;rintro e jG ⟨u3,rfl,hu3,Qn,dO⟩;have uS:=ae (Ai.out.trans dO);have Bt:=ae (((S8.out.but fF oM).but iD oM).but dO oM);have Qo:=ae (((S9.out.but fF pA).but iD pA).but dO pA);have q1:IntKind.i64.wrap (-u1)= -u1:=by rw [IntKind.wrap_i64];omega
  have q2:IntKind.i64.wrap (1+u2)=1+u2:=by rw [IntKind.wrap_i64];omega
  obtain ⟨-,-,-,-,-,c5,c6,c7,c8,-⟩:=aS.at Bt.out;have f5:=Bt.out.frozen 5;have f6:=Bt.out.frozen 6;have f7:=Bt.out.frozen 7;have f8:=Bt.out.frozen 8
  have Qp:Hid (aG ((((jG.setCell ⟨X,5,none⟩ (i64 (-u1))).setCell ⟨X,6,none⟩ (i64 (1+u2))).setCell ⟨X,7,none⟩ (i64 u3)).setCell ⟨X,8,none⟩ (i64 1)) X 78 ({x2 with iH:= -u1,kq:=1+u2,iO:=u3,lg:=1}:aS).cells):=(((Bt.out.set 5 (i64 (-u1))).set 6 (i64 (1+u2))).set 7 (i64 u3)).set 8 (i64 1)
  have Qq:Hid (bn ((((jG.setCell ⟨X,5,none⟩ (i64 (-u1))).setCell ⟨X,6,none⟩ (i64 (1+u2))).setCell ⟨X,7,none⟩ (i64 u3)).setCell ⟨X,8,none⟩ (i64 1)) T a c l):=by
   obtain ⟨j,hj,hA⟩:=Qn;exact ⟨j,hj,(((hA.other _ _ oM).other _ _ oM).other _ _ oM).other _ _ oM⟩
  have Qr:Hid (ak T V ((((jG.setCell ⟨X,5,none⟩ (i64 (-u1))).setCell ⟨X,6,none⟩ (i64 (1+u2))).setCell ⟨X,7,none⟩ (i64 u3)).setCell ⟨X,8,none⟩ (i64 1))):=(((uS.out.setCell (p:=⟨X,5,none⟩) ET.out _).setCell (p:=⟨X,6,none⟩) ET.out _).setCell (p:=⟨X,7,none⟩) ET.out _).setCell (p:=⟨X,8,none⟩) ET.out _;have Qs:Hid (aG ((((jG.setCell ⟨X,5,none⟩ (i64 (-u1))).setCell ⟨X,6,none⟩ (i64 (1+u2))).setCell ⟨X,7,none⟩ (i64 u3)).setCell ⟨X,8,none⟩ (i64 1)) R 78 kg.cells):=(((Qo.out.other _ _ CL).other _ _ CL).other _ _ CL).other _ _ CL;have HQ:Hid ((({x2 with iH:= -u1,kq:=1+u2,iO:=u3,lg:=1}:aS).iH= -u1)∧ -3≤ -u1∧ -u1≤0∧1≤1+u2∧1+u2≤2∧0≤u3∧u3≤3):=⟨rfl,by omega,by omega,by omega,by omega,by omega,by omega⟩;clear K7 Qm Qn fF iD dO hu1 JO hu3 ID JN Ai uS S8 Bt S9 Qo S_;go_upto_region 5 with fail
  clear c5 c6 c7 c8 f5 f6 f7 f8 q1 q2
  obtain ⟨x3,IM,K8,Gc,qQ,Qt⟩: ∃x:aS,(x.name=aL 108 i∧x.cd=(fr:Int)∧x.ie=(tb:Int)∧(1≤x.rn∧x.rn≤4∧1≤x.rd∧x.rd≤2)∧(-3≤x.iH∧x.iH≤0∧1≤x.kq∧x.kq≤2∧0≤x.iO∧x.iO≤3∧x.lg=1)∧(4≤x.cf∧x.cf≤43)∧(x.cf≤x.gw∧x.gw≤62)∧x.away= []∧x.aa=none∧x.ac=0)∧aG ((((jG.setCell ⟨X,5,none⟩ (i64 (-u1))).setCell ⟨X,6,none⟩ (i64 (1+u2))).setCell ⟨X,7,none⟩ (i64 u3)).setCell ⟨X,8,none⟩ (i64 1)) X 78 x.cells∧bn ((((jG.setCell ⟨X,5,none⟩ (i64 (-u1))).setCell ⟨X,6,none⟩ (i64 (1+u2))).setCell ⟨X,7,none⟩ (i64 u3)).setCell ⟨X,8,none⟩ (i64 1)) T a c l∧ak T V ((((jG.setCell ⟨X,5,none⟩ (i64 (-u1))).setCell ⟨X,6,none⟩ (i64 (1+u2))).setCell ⟨X,7,none⟩ (i64 u3)).setCell ⟨X,8,none⟩ (i64 1))∧aG ((((jG.setCell ⟨X,5,none⟩ (i64 (-u1))).setCell ⟨X,6,none⟩ (i64 (1+u2))).setCell ⟨X,7,none⟩ (i64 u3)).setCell ⟨X,8,none⟩ (i64 1)) R 78 kg.cells:=by
   obtain ⟨h1,h2,h3,h4,h5,h6,h7,h8,h9,h10⟩:=j4.out;exact ⟨{x2 with iH:= -u1,kq:=1+u2,iO:=u3,lg:=1},⟨h1,h2,h3,h4,⟨HQ.out.2.1,HQ.out.2.2.1,HQ.out.2.2.2.1,HQ.out.2.2.2.2.1,HQ.out.2.2.2.2.2.1,HQ.out.2.2.2.2.2.2,rfl⟩,h6,h7,h8,h9,h10⟩,Qp.out,Qq.out,Qr.out,Qs.out⟩
  clear Qp Qq Qr Qs HQ j4;generalize ((((jG.setCell ⟨X,5,none⟩ (i64 (-u1))).setCell ⟨X,6,none⟩ (i64 (1+u2))).setCell ⟨X,7,none⟩ (i64 u3)).setCell ⟨X,8,none⟩ (i64 1))=W7t at*;have nc:=ae IM;have yy:=ae K8;have GG:=ae Gc;have jY:=ae qQ;have qR:=ae Qt
  clear IM K8 Gc qQ Qt;go_wp2_with fail
  refine (JD.out W7t jY.out GG.out).mono ?_;rintro e W8 ⟨wa,jk,hs,rfl,CM,hI,hrg,DZ,K7,fF⟩;have JP:=ae (yy.out.but fF oM);have MW:aG (W8.setCell ⟨X,11,none⟩ (.slice wa hs.length jk)) X 78 ({x3 with aa:=wa,ac:=jk,away:=hs}:aS).cells:=JP.out.set 11 (.slice wa hs.length jk);have c11:=JP.out.cl 11 (.slice x3.aa x3.away.length x3.ac) rfl;have f11:=JP.out.frozen 11
  have Mu:Hid (bn (W8.setCell ⟨X,11,none⟩ (.slice wa hs.length jk)) T a c l):=by
   obtain ⟨j,hj,hA⟩:=K7;exact ⟨j,hj,hA.other _ _ oM⟩
  have Ai:Hid (ak T V (W8.setCell ⟨X,11,none⟩ (.slice wa hs.length jk))):=(jY.out.trans fF).setCell (p:=⟨X,11,none⟩) ET.out _;have U_:Hid (aG (W8.setCell ⟨X,11,none⟩ (.slice wa hs.length jk)) R 78 kg.cells):=(qR.out.but fF pA).other _ _ CL;have U':Hid (aA (W8.setCell ⟨X,11,none⟩ (.slice wa hs.length jk)) wa jk hs):=aA.fS hI ((ak.refl X W8).set rfl _) (fun p hp=>by have h1:=DZ p hp;have h2:=yy.out.lt;omega);have lN:Hid (Fr V.heap.size wa):=DZ.mono jY.out.size;have Va:Hid (∀p,wa=some p→p.block≠R):=fun p hp=>by have h1:=DZ p hp;have h2:=qR.out.lt;omega
  obtain ⟨x4,fN⟩: ∃x4:aS,x4={x3 with aa:=wa,ac:=jk,away:=hs}:=⟨_,rfl⟩;rw [←fN]at MW
  have ng:Hid (oy x4 i fr tb hours∧x4.aa=wa∧x4.ac=jk∧x4.away=hs):=by
   obtain ⟨h1,h2,h3,h4,⟨S',Ta,Tb,Qu,Vb,Vc,Vd⟩,h6,h7,h8,h9,h10⟩:=nc.out;rw [fN];exact ⟨⟨h1,h2,h3,h4,⟨S',Ta,Tb,Qu⟩,⟨Vb,Vc,Vd⟩,h6,h7,CM,hrg⟩,rfl,rfl,rfl⟩
  have HC:=ae MW;clear CM hI hrg DZ K7 fF JP yy GG jY qR nc JD eQ MW fN;go_upto_region 6 with fail
  clear c11 f11;generalize (W8.setCell ⟨X,11,none⟩ (.slice wa hs.length jk))=W9 at*;obtain ⟨c0,c1,c2,c3,c4,c5,c6,c7,c8,c9,c10,c11⟩:=aS.at HC.out;go_wp2_with (refine bF rfl 78 _ _ rfl R kg.cells x4.cells U_.out rfl rfl (by kernel_rfl) rfl rfl ?_;intro xh jP dO)
  have uS:=ae (Ai.out.over dO xP.out);have Bu:=ae (Mu.out.but dO (fun e=>pA e.symm))
  have Bv:Hid (aA xh wa jk hs):=U'.out.fS dO Va.out;obtain ⟨d0,d1,d2,d3,d4,d5,d6,d7,d8,d9,d10,d11⟩:=aS.at jP;clear c0 c1 c2 c3 c4 c5 c6 c7 c8 c9 c10 c11 dO jP;exact bodyPost_ret (v:= .agg x4.cells.toArray) (by simp [results,Tryz.results34,go_sem,d0,d1,d2,d3,d4,d5,d6,d7,d8,d9,d10,d11,aS.cells]) rfl ⟨x4,rfl,ng.out.1,by rw [ng.out.2.1,ng.out.2.2.1,ng.out.2.2.2];exact Bv.out,by rw [ng.out.2.1];exact lN.out,Bu.out,uS.out⟩
 ·go_upto_region 5 with fail
  obtain ⟨x3,IM,K8,Gc,qQ,Qt⟩: ∃x:aS,(x.name=aL 108 i∧x.cd=(fr:Int)∧x.ie=(tb:Int)∧(1≤x.rn∧x.rn≤4∧1≤x.rd∧x.rd≤2)∧(-3≤x.iH∧x.iH≤0∧1≤x.kq∧x.kq≤2∧0≤x.iO∧x.iO≤3∧x.lg=1)∧(4≤x.cf∧x.cf≤43)∧(x.cf≤x.gw∧x.gw≤62)∧x.away= []∧x.aa=none∧x.ac=0)∧aG W7 X 78 x.cells∧bn W7 T a c l∧ak T V W7∧aG W7 R 78 kg.cells:=by
   obtain ⟨h1,h2,h3,h4,⟨S',Ta,Tb,Qu⟩,h6,h7,h8,h9,h10⟩:=j4.out;exact ⟨x2,⟨h1,h2,h3,h4,⟨by omega,by omega,by omega,by omega,by omega,by omega,Qu⟩,h6,h7,h8,h9,h10⟩,S8.out,S_.out,ID.out,S9.out⟩
  clear S8 S_ ID S9 j4;have nc:=ae IM;have yy:=ae K8;have GG:=ae Gc;have jY:=ae qQ;have qR:=ae Qt
  clear IM K8 Gc qQ Qt;go_wp2_with fail
  refine (JD.out W7 jY.out GG.out).mono ?_;rintro e W8 ⟨wa,jk,hs,rfl,CM,hI,hrg,DZ,K7,fF⟩;have JP:=ae (yy.out.but fF oM);have MW:aG (W8.setCell ⟨X,11,none⟩ (.slice wa hs.length jk)) X 78 ({x3 with aa:=wa,ac:=jk,away:=hs}:aS).cells:=JP.out.set 11 (.slice wa hs.length jk);have c11:=JP.out.cl 11 (.slice x3.aa x3.away.length x3.ac) rfl;have f11:=JP.out.frozen 11
  have Mu:Hid (bn (W8.setCell ⟨X,11,none⟩ (.slice wa hs.length jk)) T a c l):=by
   obtain ⟨j,hj,hA⟩:=K7;exact ⟨j,hj,hA.other _ _ oM⟩
  have Ai:Hid (ak T V (W8.setCell ⟨X,11,none⟩ (.slice wa hs.length jk))):=(jY.out.trans fF).setCell (p:=⟨X,11,none⟩) ET.out _;have U_:Hid (aG (W8.setCell ⟨X,11,none⟩ (.slice wa hs.length jk)) R 78 kg.cells):=(qR.out.but fF pA).other _ _ CL;have U':Hid (aA (W8.setCell ⟨X,11,none⟩ (.slice wa hs.length jk)) wa jk hs):=aA.fS hI ((ak.refl X W8).set rfl _) (fun p hp=>by have h1:=DZ p hp;have h2:=yy.out.lt;omega);have lN:Hid (Fr V.heap.size wa):=DZ.mono jY.out.size;have Va:Hid (∀p,wa=some p→p.block≠R):=fun p hp=>by have h1:=DZ p hp;have h2:=qR.out.lt;omega
  obtain ⟨x4,fN⟩: ∃x4:aS,x4={x3 with aa:=wa,ac:=jk,away:=hs}:=⟨_,rfl⟩;rw [←fN]at MW
  have ng:Hid (oy x4 i fr tb hours∧x4.aa=wa∧x4.ac=jk∧x4.away=hs):=by
   obtain ⟨h1,h2,h3,h4,⟨S',Ta,Tb,Qu,Vb,Vc,Vd⟩,h6,h7,h8,h9,h10⟩:=nc.out;rw [fN];exact ⟨⟨h1,h2,h3,h4,⟨S',Ta,Tb,Qu⟩,⟨Vb,Vc,Vd⟩,h6,h7,CM,hrg⟩,rfl,rfl,rfl⟩
  have HC:=ae MW;clear CM hI hrg DZ K7 fF JP yy GG jY qR nc JD eQ MW fN;go_upto_region 6 with fail
  clear c11 f11;generalize (W8.setCell ⟨X,11,none⟩ (.slice wa hs.length jk))=W9 at*;obtain ⟨c0,c1,c2,c3,c4,c5,c6,c7,c8,c9,c10,c11⟩:=aS.at HC.out;go_wp2_with (refine bF rfl 78 _ _ rfl R kg.cells x4.cells U_.out rfl rfl (by kernel_rfl) rfl rfl ?_;intro xh jP dO)
  have uS:=ae (Ai.out.over dO xP.out);have Bu:=ae (Mu.out.but dO (fun e=>pA e.symm))
  have Bv:Hid (aA xh wa jk hs):=U'.out.fS dO Va.out;obtain ⟨d0,d1,d2,d3,d4,d5,d6,d7,d8,d9,d10,d11⟩:=aS.at jP;clear c0 c1 c2 c3 c4 c5 c6 c7 c8 c9 c10 c11 dO jP;exact bodyPost_ret (v:= .agg x4.cells.toArray) (by simp [results,Tryz.results34,go_sem,d0,d1,d2,d3,d4,d5,d6,d7,d8,d9,d10,d11,aS.cells]) rfl ⟨x4,rfl,ng.out.1,by rw [ng.out.2.1,ng.out.2.2.1,ng.out.2.2.2];exact Bv.out,by rw [ng.out.2.1];exact lN.out,Bu.out,uS.out⟩
end Go.Proofs.YtkpngkdgphojlaaGreat
