/- Texts of the proof. -/
import Derived.Laws.Tables
import Derived.Test.YtbnamicbjaaelaaGreatCg20
set_option linter.all false
set_option maxHeartbeats 2000000
set_option maxRecDepth 100000
namespace Go.Proofs.YtbnamicbjaaelaaGreat
open Go.Proofs.Tryz
open Go.RowKit
def bO (w:World) (T:Nat) (a:Option Addr) (c:Nat) (l:List Int):Prop:= ∃i:Nat,i<=l.length/\aT w T 106 [.slice a l.length c,i64 i]
theorem bO.ext {w w':World} {T:Nat} {a:Option Addr} {c:Nat} {l:List Int} (h:bO w T a c l) (e:Ext w w'):bO w' T a c l:=by
 obtain ⟨i,h1,h2⟩:=h;exact ⟨i,h1,h2.ext e⟩
theorem bO.lt {w:World} {T:Nat} {a:Option Addr} {c:Nat} {l:List Int} (h:bO w T a c l):T<w.heap.size:=by
 obtain ⟨i,h1,h2⟩:=h;exact h2.lt
theorem bO.keep {w w':World} {T:Nat} {a:Option Addr} {c:Nat} {l:List Int} (h:bO w T a c l) (e:w'.heap[T]?=w.heap[T]?):bO w' T a c l:=by
 obtain ⟨i,h1,h2⟩:=h;exact ⟨i,h1,h2.keep e⟩
theorem bO.but {w w':World} {T K:Nat} {a:Option Addr} {c:Nat} {l:List Int} (h:bO w T a c l) (e:aB K w w') (hk:T≠K):bO w' T a c l:=h.keep (e.block T h.lt hk)
theorem L9 (V:World) (a:Option Addr) (c:Nat) (l:List Int):
 Calls prog 20 #[.slice a l.length c] V λe w'=>e= .returned (.pointer (some ⟨V.heap.size,0,none⟩))/\bO w' V.heap.size a c l/\Ext V w':=by
 go_enter func20,ntmps20
 go_wp2
 go_ret;exact ⟨rfl,⟨0,aZ,aT.alloc V 106 [.slice a l.length c,i64 0]⟩,(Ext.refl V).alloc _⟩
def mh (V:World) (T:Nat) (a:Option Addr) (c:Nat) (l:List Int) (w':World):Prop:=bO w' T a c l/\aB T V w'
theorem sK (w0 V:World) (T:Nat) (a:Option Addr) (c:Nat) (l:List Int) (n:Int) (hK:w0.heap.size<=T) (hV:Ext w0 V) (hl:aS w0 a c l) (hT:bO V T a c l) (hn:0<n) (Ig:n<1000000):
 Calls prog 21 #[.pointer (some ⟨T,0,none⟩),i64 n] V λe w'=> ∃v:Int,e= .returned (i64 v)/\(0<=v/\v<n)/\mh V T a c l w':=by
 have hle:=hl.le;have dS:=hl.cap
 obtain ⟨i,hi,hA⟩:=hT;have c0:V.cell? ⟨T,0,none⟩=some (.slice a l.length c):=(hA.cell 0).trans rfl;have c1:V.cell? ⟨T,1,none⟩=some (i64 (i:Int)):=(hA.cell 1).trans rfl;have f1:V.frozen? ⟨T,1,none⟩=false:=hA.frozen 1;have HA:=ah hA;have HN:=ah (And.intro hn Ig)
 by_cases hlt:i<l.length
 .have ht:decide ((l.length:Int)<=(i:Int))=false:=by simp;omega
  obtain ⟨ab,ao,ha,i0⟩:=(hl.ext hV).cell i hlt;have hrg:=(hl.ext hV).T4 i hlt
  have hTb:ab≠T:=by
   obtain ⟨b3,o3,h3,q0⟩:=hl.cell i hlt;rw [ha]at h3;cases h3
   have:=cY q0;simp only at this;omega
  obtain ⟨v,hv⟩: ∃v,v=l[i]:=⟨_,rfl⟩;rw [<-hv]at i0 hrg;have vG:Hid (aT ((V.setCell ⟨T,1,none⟩ (i64 ((i+1:Nat):Int))).drew) T 106 [.slice a l.length c,i64 ((i+1:Nat):Int)]):=(HA.o.set 1 (i64 ((i+1:Nat):Int))).ext ar.drew;have eL:IntKind.i64.wrap ((i:Int)+1)=((i+1:Nat):Int):=dW;have hw2:IntKind.i64.wrap (((i+1:Nat):Int)-1)=(i:Int):=dW;have hw3:IntKind.i64.wrap (i:Int)=(i:Int):=dW
  have j0:(V.setCell ⟨T,1,none⟩ (i64 ((i+1:Nat):Int))).drew.cell? ⟨ab,ao+i,none⟩=some (i64 v):=by
   have h5:(V.setCell ⟨T,1,none⟩ (i64 ((i+1:Nat):Int))).cell? ⟨ab,ao+i,none⟩=some (i64 v):=by rw [World.cell?_setCell_far _ _ _ _ (λe=>hTb e.symm)];exact i0
   exact h5
  have d0:(V.setCell ⟨T,1,none⟩ (i64 ((i+1:Nat):Int))).drew.cell? ⟨T,0,none⟩=some (.slice a l.length c):=(vG.o.cell 0).trans rfl;have d1:(V.setCell ⟨T,1,none⟩ (i64 ((i+1:Nat):Int))).drew.cell? ⟨T,1,none⟩=some (i64 ((i+1:Nat):Int)):=(vG.o.cell 1).trans rfl;have abb:=ah (λU=>Ks U v n hrg.1 ae hn Ig);have HMR:=ah (EL v n hn);have iM:(0:Int)<=(i:Int):=ae;have iK:(i:Int)<(l.length:Int):=ae;have HX:Hid (aB T V ((V.setCell ⟨T,1,none⟩ (i64 ((i+1:Nat):Int))).drew.drew)):=((aB.refl T V).ez.trans (ar.drew.drew.but T));subst ha;clear hA hl hV hK hn Ig hv hrg i0;go_enter func21,ntmps21
  go_wp2_with fail
  refine aO (λw'=>w'.cell? ⟨T,0,none⟩=some (.slice (some ⟨ab,ao,none⟩) l.length c)/\w'.cell? ⟨T,1,none⟩=some (i64 (i:Int))) (λw'=>True) (λi=>false) ax (⟨c0,c1⟩) (trivial) (λaD ai=> ?_);refine aJ 0 aD ai ?_;refine aJ 1 aD ai ?_;refine aJ 2 aD ai ?_;refine aJ 3 aD ai ?_ (v:=i64 (i:Int));refine aJ 4 aD ai ?_;refine aJ 5 aD ai ?_;refine aJ 6 aD ai ?_;refine aJ 7 aD ai ?_;refine aJ 8 aD ai ?_ (v:= .int .i64 (l.length:Int));refine aJ 9 aD ai ?_;refine aI ax ?_ _;clear aD ai;clear ht;go_wp2_with fail
  refine aO (λw'=>w'.cell? ⟨T,0,none⟩=some (.slice (some ⟨ab,ao,none⟩) l.length c)/\w'.cell? ⟨T,1,none⟩=some (i64 ((i+1:Nat):Int))/\w'.cell? ⟨ab,ao+i,none⟩=some (i64 v)) (λw'=>True) (λi=>false) ax (⟨d0,d1,j0⟩) (trivial) (λaD ai=> ?_);refine aJ 0 aD ai ?_;refine aJ 1 aD ai ?_;refine aJ 2 aD ai ?_;refine aJ 3 aD ai ?_;refine aJ 4 aD ai ?_;refine aJ 5 aD ai ?_;refine aJ 6 aD ai ?_;refine aJ 7 aD ai ?_ (v:=i64 ((i+1:Nat):Int));refine aJ 8 aD ai ?_ (v:= .int .i64 (i:Int));refine aJ 9 aD ai ?_;refine aJ 10 aD ai ?_ (v:=i64 v);refine aJ 11 aD ai ?_ (v:=i64 n);refine eI 12 rfl (λKc hK=> ?_);go_simp;refine (abb.o _).mono ?_;rintro e z1 ⟨rfl,rfl⟩;refine hK.o _ _ (⟨d0,d1,j0⟩) (trivial) (λaD ai=> ?_);clear hK Kc;try simp only [sS]
  refine aJ 13 aD ai ?_ (v:=i64 (Ie v n));refine aI ax ?_ _;clear aD ai;go_wp2
  go_ret;exact ⟨Ie v n,rfl,HMR.o,⟨i+1,ae,vG.o.ext ar.drew⟩,HX.o⟩
 .obtain rfl:i=l.length:=ae
  have ht:decide ((l.length:Int)<=(l.length:Int))=true:=aG;clear hA hl hV hK hn Ig;go_enter func21,ntmps21
  go_wp2_with fail
  refine aO (λw'=>w'.cell? ⟨T,0,none⟩=some (.slice a l.length c)/\w'.cell? ⟨T,1,none⟩=some (i64 (l.length:Int))) (λw'=>True) (λi=>false) ax (⟨c0,c1⟩) (trivial) (λaD ai=> ?_);refine aJ 0 aD ai ?_;refine aJ 1 aD ai ?_;refine aJ 2 aD ai ?_;refine aJ 3 aD ai ?_ (v:=i64 (l.length:Int));refine aJ 4 aD ai ?_;refine aJ 5 aD ai ?_;refine aJ 6 aD ai ?_;refine aJ 7 aD ai ?_;refine aJ 8 aD ai ?_ (v:= .int .i64 (l.length:Int));refine aJ 9 aD ai ?_;refine aI ax ?_ _;clear aD ai;go_wp2
  go_ret;exact ⟨0,rfl,⟨Int.le_refl _,HN.o.1⟩,⟨l.length,bY,HA.o.ext ar.drew⟩,(Ext.refl V).drew.but T⟩
theorem lB (w0 V:World) (T:Nat) (a:Option Addr) (c:Nat) (l:List Int) (n:Nat) (m:Int) (hK:w0.heap.size<=T) (hV:Ext w0 V) (hl:aS w0 a c l) (hT:bO V T a c l) (hn:n<=1000) (hm:0<m) (ri:m<1000000):
 Calls prog 22 #[.pointer (some ⟨T,0,none⟩),.int .i64 (n:Int),i64 m] V λe w'=> ∃b cap hs,e= .returned (.slice b n cap)/\hs.length=n/\aS w' b cap hs/\(∀x∈hs,0<=x/\x<m)/\Fr V.heap.size b/\mh V T a c l w':=by
 have gl:=ah (λU (hx:aB T V U) (hU:bO U T a c l)=>sK w0 U T a c l m hK (hx.ext hV hK) hl hU hm ri);have HT:=ah hT;have KH:=ah hT.lt;have DO:=ah ri;clear hl hV hK hT hm ri;go_enter func22,ntmps22
 go_wp2
 go_loopw [7,8] (λv ii wr=> ∃(i:Nat) (hs:List Int),i<=n/\hs.length=i/\(∀x∈hs,0<=x/\x<m)/\aL wr V.heap.size 3 1 v (dY hs)/\mh V T a c l wr/\ii= .int .i64 i) (λ_ ii _=>n-(intOf ii).toNat)
 case atStart=>exact ⟨0,[],aZ,rfl,λx hx=>absurd hx aG,aL.nil _ _ _ _,⟨HT.o,aB.refl _ _⟩,rfl⟩
 case round=>
  obtain ⟨i,hs,hi,rP,hrg,hown,⟨hT,hx⟩,rfl⟩:=hrel;clear HT;by_cases hlt:i<n
  .have iK:(i:Int)<(n:Int):=ae
   have HN:=ah (gl.o wr hx hT);have HO:=ah hown;have HX:=ah hx;have L_:=ah hrg;have YQ:=ah rP
   clear hown hx hT hrg rP;go_wp2_with fail
   refine HN.o.mono ?_;rintro e W1 ⟨v,rfl,hv,Ha,hx1⟩;have HV1:=ah hv;have wm:=ah Ha;have eC:=ah (HX.o.trans hx1)
   have Tz:Hid (aL W1 V.heap.size 3 1 u7 (dY hs)):=HO.o.but hx1 KH.o
   have HOW:Hid (W1.ownsRow V.heap.size 3 1 u7 hs.length (dY hs).flatten):=by
    have h5:=Tz.o.own;rw [cf]at h5;exact h5
   have hsz:=eC.o.size;clear hv Ha hx1 HN;go_wp2_with (at_builtin;refine bC _ rfl (.tmp 14) (.tmp 18) 22 rfl V.heap.size 3 (.int .i64 0) 1 8 underlying22 Tryz.info_int rfl aq u7 hs.length (dY hs).flatten rfl ?c1 (some ⟨W1.heap.size,0,none⟩) 1 1 [i64 v] rfl rfl ?c2 ?c3 ?c4 ?c5 aq ?c6 ?_;rotate_right;intro v1 w5 ho he hb hz hv)
   case c1=>exact bZ HOW.o (ar.alloc _)
   case c2=>exact λ_=>⟨_,rfl,dH W1 3 [i64 v]⟩
   case c3=>intro u hu;rw [List.mem_singleton]at hu;subst hu;rfl
   case c4=>intro e;cases e
   case c5=>have:=YQ.o;omega
   case c6=>simp;omega
   have nH:=HOW.o.lt;have Co:(W1.alloc (.cells #[i64 v] 3)).heap.size=W1.heap.size+1:=aG;have hTl:=KH.o;have xT:bO w5 T a c l:=bO.keep (wm.o.ext ((Ext.refl W1).alloc _)) (hb.o T (bA wm.o.lt) (λe=>bA ((nH T e.symm).1)));have xX:aB T V w5:=aB.append (eC.o.alloc' _) bY (λk e=>(nH k e).1) he.o hb.o hz.o;have jl:=Tz.o.snoc (w':=w5) (v':=v1) (r:= [i64 v]) rfl (by rw [cf];exact ho.o);rw [<-kM]at jl;have HR:=ah (And.intro jl (And.intro xT xX))
   have TA:Hid (∀x∈hs++ [v],0<=x/\x<m):=λx hx=>by
    rcases List.mem_append.1 hx with h|h
    .exact L_.o x h
    .rw [List.mem_singleton]at h;rw [h];exact HV1.o
   clear xT xX jl Co nH ho he hb hz hv hTl;exact ⟨⟨i+1,hs++ [v],ae,by rw [List.length_append,YQ.o];rfl,TA.o,HR.o.1,HR.o.2,bf⟩,a_⟩
  .obtain rfl:i=n:=ae
   obtain ⟨b,cap,rfl,hS,lJ⟩:=hown.recs aq;rw [cf,rP];have HI:Hid (aS wr b cap hs):=aS.nC hS (λz hz=>by have:=hrg z hz;have:=DO.o;unfold b_;omega);have HR:=ah (And.intro rP (And.intro hrg (And.intro lJ (And.intro hT hx))));clear hown hS lJ hT hx hrg rP;go_wp2
   go_ret;exact ⟨b,cap,hs,rfl,HR.o.1,HI.o,HR.o.2.1,HR.o.2.2.1,HR.o.2.2.2⟩
theorem Hh (w0 V:World) (T:Nat) (a:Option Addr) (c:Nat) (l:List Int) (n:Int) (hK:w0.heap.size<=T) (hV:Ext w0 V) (hl:aS w0 a c l) (hT:bO V T a c l) (hn:0<n) (Ig:n<1000000):
 Calls prog 53 #[.pointer (some ⟨T,0,none⟩),i64 n] V λe w'=> ∃b cap hs,e= .returned (.slice b hs.length cap)/\(hs.length<=1/\(hs= []->b=none))/\aS w' b cap hs/\(∀x∈hs,0<=x/\x<n)/\Fr V.heap.size b/\mh V T a c l w':=by
 have GX:=ah (sK w0 V T a c l 6 hK hV hl hT aq aq);have J_:=ah (λU (hx:aB T V U) (hU:bO U T a c l)=>sK w0 U T a c l n hK (hx.ext hV hK) hl hU hn Ig);have HN:=ah Ig;clear hK hV hl hT hn Ig;go_enter func53,ntmps53
 go_wp2_with fail
 refine GX.o.mono ?_;rintro e W1 ⟨v,rfl,hv,Ha,hx1⟩;have wm:=ah Ha;have eC:=ah hx1
 have hsz:=hx1.size;clear Ha hx1 GX;rcases Bool.eq_false_or_eq_true (v==5)with h5|h5
 .have J_:=ah (J_.o W1 eC.o wm.o)
  clear hv;go_wp2_with fail
  refine J_.o.mono ?_;rintro e W2 ⟨x,rfl,hxr,Ki,hx2⟩;have OD:=ah hxr;have lX:=ah Ki;have eR:=ah (eC.o.trans hx2)
  have abd:=Nat.le_trans hsz hx2.size;clear hxr Ki hx2 hsz J_;go_wp2
  go_ret;refine ⟨some ⟨W2.heap.size,0,none⟩,1,[x],rfl,⟨bY,λq=>absurd q aG⟩,aS.one W2 x (by have:=OD.o;have:=HN.o;unfold b_;omega),λz hz=> ?_,Fr.some abd,lX.o.ext ((Ext.refl W2).alloc _),eR.o.alloc' _⟩;rw [List.mem_singleton]at hz;rw [hz];exact OD.o
 .clear hv
  go_wp2
  go_ret;exact ⟨none,0,[],rfl,⟨aZ,λ_=>rfl⟩,⟨bY,aq,λi hi=>absurd hi (Nat.not_lt_zero _),λi hi=>absurd hi (Nat.not_lt_zero _)⟩,λz hz=>absurd hz aG,Fr.none _,wm.o,eC.o⟩
def Js:ByteArray:={data:= #[48,49,50,51,52,53,54,55,56,57,97,98,99,100,101,102]}
def aW (k:UInt8) (i:Nat):ByteArray:={data:= #[k]}++Js.extract i (i+1)
theorem wu (w:World) (k:UInt8) (i:Nat) (hi:i<16):
 Calls prog 23 #[.string {data:= #[k]},.int .i64 (i:Int)] w λe w'=>e= .returned (.string (aW k i))/\w'=w:=by
 have h1:Int.tmod (i:Int) 16=(i:Int):=by rw [Int.tmod_eq_emod_of_nonneg ae];omega
 have h2:IntKind.i64.wrap (i:Int)=(i:Int):=dW;have h3:IntKind.i64.wrap ((i:Int)+1)=((i+1:Nat):Int):=dW;go_enter func23,ntmps23
 go_wp2
 go_ret;exact ⟨rfl,rfl⟩
theorem o9 (k:UInt8) (i:Nat) (hi:i<16):(aW k i).data= #[k,Js.data[i]!]:=by
 have h:i=0\/i=1\/i=2\/i=3\/i=4\/i=5\/i=6\/i=7\/i=8\/i=9\/i=10\/i=11\/i=12\/i=13\/i=14\/i=15:=ae;rcases h with rfl|rfl|rfl|rfl|rfl|rfl|rfl|rfl|rfl|rfl|rfl|rfl|rfl|rfl|rfl|rfl<;>rfl
theorem mi (k:UInt8) (i:Nat) (hi:i<16):(aW k i).size=2:=by
 show(aW k i).data.size=2;rw [o9 k i hi];rfl
theorem aB.over {K R:Nat} {V W w':World} (h:aB K V W) (k:aB R W w') (hR:V.heap.size<=R):aB K V w':=
 ⟨k.os.trans h.os,k.tape.trans h.tape,k.output.trans h.output,Nat.le_trans h.drawn k.drawn,Nat.le_trans h.size k.size,λx hx hK=>by
   have:=h.size;rw [k.block x ae ae];exact h.block x hx hK⟩
section
variable{P:Program}
theorem cX {ops:Array Oper} {rest:List Oper} {o:Oper} {a:Act} {w:World} {Q:Exit->Act->World->Prop} (hgd:o.guard=none) (ty:TypeId) (x y:Operand) (ho:o.op= .store ty x y)
 (R:Nat) (cs cs':List Value) (hA:aT w R ty cs) (hx:a.eval x= .pointer (some ⟨R,0,none⟩)) (hy:a.eval y= .agg cs'.toArray) (hi:(P.info? ty).map (·.size)=some cs'.length) (hold:cs.length=cs'.length) (h1:cs'.all (·.oneCell')=true)
 (h: ∀w',aT w' R ty cs'->aB R w w'->wpList P ops Q rest (a.put o.dst undef) w'):wpList P ops Q (o::rest) a w:=
 wpList_plain hgd λK hK=>by
  have hr:=run_storeVar_row (P:=P) w R ty ty cs.toArray cs'.toArray hA (by simpa using hi) (by simpa using hold) (by simpa using h1);unfold Oper.wp execOp;simp only [ho,hx,hy,Instr.storeAt,Instr.sureAddr,Sem.run_bind,Sem.run_pure,Result.andThen_ok,hr];refine hK _ _ (h _ ?_ ?_)
  .exact setRow_heap w R cs.toArray cs'.toArray ty (0,0) hA
  .refine ⟨rfl,rfl,rfl,bY,by simp [World.setRow],λk hk hne=> ?_⟩
   simp [World.setRow,Array.getElem?_modify,Ne.symm hne]
end
structure qH (x:bn) (i fr tb:Nat) (hours:Int):Prop where
 name:x.name=aW 108 i
 dL:x.dL=(fr:Int)
 ld:x.ld=(tb:Int)
 r:1<=x.rn/\x.rn<=4/\1<=x.rd/\x.rd<=2
 s0: -3<=x.uH/\x.uH<=0/\1<=x.yt/\x.yt<=2
 s1:0<=x.vw/\x.vw<=3/\x.Bn=1
 dO:4<=x.dO/\x.dO<=43
 kK:x.dO<=x.kK/\x.kK<=62
 R5:x.away.length<=1/\(x.away= []->x.aa=none)
 away: ∀z∈x.away,0<=z/\z<hours
def mj:bn:=⟨{data:= #[]},0,0,0,0,0,0,0,0,0,0,none,0,[]⟩
def fY (w0 V:World) (T:Nat) (a:Option Addr) (c:Nat) (l:List Int):Prop:= ∀(U:World) (m:Int),aB T V U->bO U T a c l->0<m->m<1000000->Calls prog 21 #[.pointer (some ⟨T,0,none⟩),i64 m] U λe w'=> ∃v:Int,e= .returned (i64 v)/\(0<=v/\v<m)/\mh U T a c l w'
theorem fY.of (w0 V:World) (T:Nat) (a:Option Addr) (c:Nat) (l:List Int) (hK:w0.heap.size<=T) (hV:Ext w0 V) (hl:aS w0 a c l):fY w0 V T a c l:=
 λU m hx hU h1 h2=>sK w0 U T a c l m hK (hx.ext hV hK) hl hU h1 h2
theorem Hi (w0 V:World) (T:Nat) (a:Option Addr) (c:Nat) (l:List Int) (i fr tb:Nat) (hours:Int) (hK:w0.heap.size<=T) (hV:Ext w0 V) (hl:aS w0 a c l) (hT:bO V T a c l) (hi:i<16) (hh:0<hours) (YT:hours<1000):
 Calls prog 24 #[.pointer (some ⟨T,0,none⟩),.int .i64 (i:Int),.int .i64 (fr:Int),.int .i64 (tb:Int),i64 hours] V λe w'=> ∃x:bn,e= .returned (.agg x.cells.toArray)/\qH x i fr tb hours/\aS w' x.aa x.ac x.away/\Fr V.heap.size x.aa/\mh V T a c l w':=by
 have gl:=ah (fY.of w0 V T a c l hK hV hl);have R6:=ah (λU (hx:aB T V U) (hU:bO U T a c l)=>Hh w0 U T a c l hours hK (hx.ext hV hK) hl hU hh ae);have FC:=ah (λU=>wu U 108 i hi);have HT:=ah hT;have KH:=ah hT.lt;clear hK hV hl hT hi hh YT;go_enter func24,ntmps24
 go_upto_region 1 with fail
 obtain ⟨W0,hW,x0,Z0,A0⟩:=aV V 66 mj.cells;rw [show V.alloc (.cells #[.string {data:= #[]},i64 0,i64 0,i64 0,i64 0,i64 0,i64 0,i64 0,i64 0,i64 0,i64 0,.slice none 0 0] 66)=W0 from hW.symm];obtain ⟨R,hR⟩: ∃R,R=V.heap.size:=⟨_,rfl⟩;rw [<-hR]at A0⊢;have sO:R≠T:=bA KH.o;have GR:Hid (V.heap.size<=R):=by show _<=_;omega
 have HR:=ah A0;have HX:=ah (x0.but T);have HT:=ah (HT.o.ext x0)
 clear hW Z0 A0 hR x0;go_wp2_with fail
 refine (FC.o W0).mono ?_;rintro e w1 ⟨rfl,eL⟩;rw [eL];clear eL
 go_wp2_with fail
 refine (gl.o W0 4 HX.o HT.o aq aq).mono ?_;rintro e W1 ⟨v1,rfl,tB,Ha,hx1⟩;have eC:=ah (HX.o.trans hx1);go_wp2_with fail
 refine (gl.o W1 2 eC.o Ha aq aq).mono ?_;rintro e W2 ⟨v2,rfl,hv2,Ki,hx2⟩;have eR:=ah (eC.o.trans hx2);go_wp2_with fail
 refine (gl.o W2 40 eR.o Ki aq aq).mono ?_;rintro e W3 ⟨v3,rfl,hv3,LS,hx3⟩;have kR:=ah (eR.o.trans hx3);have sw:=ah (((HR.o.but hx1 sO).but hx2 sO).but hx3 sO);have Ma:=ah LS;have q1:IntKind.i64.wrap (1+v1)=1+v1:=dW;have q2:IntKind.i64.wrap (1+v2)=1+v2:=dW;have q3:IntKind.i64.wrap (4+v3)=4+v3:=dW;clear Ha Ki LS hx1 hx2 hx3 eC eR HX HT HR;obtain ⟨x1,hx1⟩: ∃x1:bn,x1=⟨aW 108 i,(fr:Int),(tb:Int),1+v1,1+v2,0,1,0,1,4+v3,0,none,0,[]⟩:=⟨_,rfl⟩
 have nX:Hid (x1.name=aW 108 i/\x1.dL=(fr:Int)/\x1.ld=(tb:Int)/\(1<=x1.rn/\x1.rn<=4/\1<=x1.rd/\x1.rd<=2)/\(x1.uH=0/\x1.yt=1/\x1.vw=0/\x1.Bn=1)/\(4<=x1.dO/\x1.dO<=43)/\x1.away= []/\x1.aa=none/\x1.ac=0):=by
  rw [hx1];exact ⟨rfl,rfl,rfl,⟨by simp only;omega,by simp only;omega,by simp only;omega,by simp only;omega⟩,⟨rfl,rfl,rfl,rfl⟩,⟨by simp only;omega,by simp only;omega⟩,rfl,rfl,rfl⟩
 clear tB hv2 hv3;go_upto_region 2 with fail
 obtain ⟨W4,KZ,x4,Z4,A4⟩:=aV W3 66 x1.cells;rw [show W3.alloc (.cells #[.string (aW 108 i),i64 (fr:Int),i64 (tb:Int),i64 (1+v1),i64 (1+v2),i64 0,i64 1,i64 0,i64 1,i64 (4+v3),i64 0,.slice none 0 0] 66)=W4 from by rw [KZ,hx1];rfl];obtain ⟨X,hX⟩: ∃X,X=W3.heap.size:=⟨_,rfl⟩;rw [<-hX]at A4⊢;have qP:X≠T:=bA Ma.o.lt;have Hj:X≠R:=bA sw.o.lt;have GQ:Hid (V.heap.size<=X):=by show _<=_;rw [hX];exact kR.o.size
 have yw:=ah A4;have pV:=ah (kR.o.trans (x4.but T));have TB:=ah (Ma.o.ext x4);have YU:=ah (sw.o.ext x4)
 clear KZ hX Z4 A4 x4 hx1 q1 q2 q3 kR Ma sw FC;have c9:=yw.o.cl 9 (i64 x1.dO) rfl;refine aO (λw'=>w'.cell? ⟨X,9,none⟩=some (i64 x1.dO)) (λw'=>True) (λi=>false) ax (c9) (trivial) (λaD ai=> ?_);refine aJ 0 aD ai ?_;refine aJ 1 aD ai ?_ (v:=i64 x1.dO);refine aJ 2 aD ai ?_;refine eI 3 rfl (λKc hK=> ?_);go_simp;refine (gl.o W4.drew 20 (pV.o.trans ((Ext.refl W4).drew.but T)) (TB.o.ext ar.drew) aq aq).mono ?_;rintro e W5 ⟨v4,rfl,hv4,Vu,eP⟩;refine hK.o _ _ (bU (aC (Ext.refl W4).drew c9) eP qP) (trivial) (λaD ai=> ?_);clear hK Kc;try simp only [sS]
 have q4:IntKind.i64.wrap (x1.dO+v4)=x1.dO+v4:=by rw [IntKind.wrap_i64];have:=nX.o.2.2.2.2.2.1;omega
 refine aJ 4 aD ai ?_ (v:=i64 (x1.dO+v4));refine aJ 5 aD ai ?_;have UR:W5.cell? ⟨X,10,none⟩=some (i64 x1.kK):=(((yw.o.ext ar.drew).but eP qP).cell 10).trans rfl;have f10:W5.frozen? ⟨X,10,none⟩=false:=((yw.o.ext ar.drew).but eP qP).frozen 10;have e9:(W5.setCell ⟨X,10,none⟩ (i64 (x1.dO+v4))).cell? ⟨X,9,none⟩=some (i64 x1.dO):=((((yw.o.ext ar.drew).but eP qP).set 10 (i64 (x1.dO+v4))).cell 9).trans rfl;refine eI 6 rfl (λKc hK=> ?_);go_simp;refine hK.o _ _ (e9) (trivial) (λaD ai=> ?_);clear hK Kc;try simp only [sS]
 refine aI ax ?_ _;clear aD ai UR f10 e9;have PX:Hid (aT (W5.setCell ⟨X,10,none⟩ (i64 (x1.dO+v4))) X 66 ({x1 with kK:=x1.dO+v4}:bn).cells):=((yw.o.ext ar.drew).but eP qP).set 10 (i64 (x1.dO+v4))
 have HT5:Hid (bO (W5.setCell ⟨X,10,none⟩ (i64 (x1.dO+v4))) T a c l):=by
  obtain ⟨j,hj,hA⟩:=Vu;exact ⟨j,hj,hA.other _ _ qP⟩
 have lW:Hid (aB T V (W5.setCell ⟨X,10,none⟩ (i64 (x1.dO+v4)))):=((pV.o.trans ((Ext.refl W4).drew.but T)).trans eP).setCell (p:=⟨X,10,none⟩) GQ.o _;have HR5:Hid (aT (W5.setCell ⟨X,10,none⟩ (i64 (x1.dO+v4))) R 66 mj.cells):=((YU.o.ext ar.drew).but eP sO).other _ _ Hj;obtain ⟨x2,hx2⟩: ∃x2:bn,x2={x1 with kK:=x1.dO+v4}:=⟨_,rfl⟩
 have pY:Hid (x2.name=aW 108 i/\x2.dL=(fr:Int)/\x2.ld=(tb:Int)/\(1<=x2.rn/\x2.rn<=4/\1<=x2.rd/\x2.rd<=2)/\(x2.uH=0/\x2.yt=1/\x2.vw=0/\x2.Bn=1)/\(4<=x2.dO/\x2.dO<=43)/\(x2.dO<=x2.kK/\x2.kK<=62)/\x2.away= []/\x2.aa=none/\x2.ac=0):=by
  obtain ⟨h1,h2,h3,h4,h5,h6,h7,h8,h9⟩:=nX.o;rw [hx2];exact ⟨h1,h2,h3,h4,h5,h6,⟨by simp only;omega,by simp only;omega⟩,h7,h8,h9⟩
 rw [<-hx2]at PX;clear hx2 hv4 q4 c9 Vu eP yw pV TB YU nX;generalize (W5.setCell ⟨X,10,none⟩ (i64 (x1.dO+v4)))=W6 at*;go_wp2_with fail
 refine (gl.o W6 5 lW.o HT5.o aq aq).mono ?_;rintro e W7 ⟨v5,rfl,hv5,hT7,oz⟩;have YV:=ah (PX.o.but oz qP);have YW:=ah (HR5.o.but oz sO);have Ns:=ah (lW.o.trans oz);have YX:=ah hT7
 clear hT7 oz hv5 PX HR5 lW HT5;rcases Bool.eq_false_or_eq_true (v5==4)with h4|h4
 .go_wp2_with fail
  refine (gl.o W7 4 Ns.o YX.o aq aq).mono ?_;rintro e W8 ⟨u1,rfl,hu1,P8,iu⟩;have Vv:=ah (Ns.o.trans iu);go_wp2_with fail
  refine (gl.o W8 2 Vv.o P8 aq aq).mono ?_;rintro e W9 ⟨u2,rfl,Yl,Vw,oA⟩;have Kj:=ah (Vv.o.trans oA);go_wp2_with fail
  refine (gl.o W9 4 Kj.o Vw aq aq).mono ?_;rintro e tD ⟨u3,rfl,hu3,Vx,eW⟩;have za:=ah (Kj.o.trans eW);have BQ:=ah (((YV.o.but iu qP).but oA qP).but eW qP);have Vy:=ah (((YW.o.but iu sO).but oA sO).but eW sO);have q1:IntKind.i64.wrap (-u1)= -u1:=dW;have q2:IntKind.i64.wrap (1+u2)=1+u2:=dW;obtain ⟨-,-,-,-,-,c5,c6,c7,c8,-⟩:=bn.at BQ.o;have f5:=BQ.o.frozen 5;have f6:=BQ.o.frozen 6;have f7:=BQ.o.frozen 7;have f8:=BQ.o.frozen 8
  have Vz:Hid (aT ((((tD.setCell ⟨X,5,none⟩ (i64 (-u1))).setCell ⟨X,6,none⟩ (i64 (1+u2))).setCell ⟨X,7,none⟩ (i64 u3)).setCell ⟨X,8,none⟩ (i64 1)) X 66 ({x2 with uH:= -u1,yt:=1+u2,vw:=u3,Bn:=1}:bn).cells):=(((BQ.o.set 5 (i64 (-u1))).set 6 (i64 (1+u2))).set 7 (i64 u3)).set 8 (i64 1)
  have VA:Hid (bO ((((tD.setCell ⟨X,5,none⟩ (i64 (-u1))).setCell ⟨X,6,none⟩ (i64 (1+u2))).setCell ⟨X,7,none⟩ (i64 u3)).setCell ⟨X,8,none⟩ (i64 1)) T a c l):=by
   obtain ⟨j,hj,hA⟩:=Vx;exact ⟨j,hj,(((hA.other _ _ qP).other _ _ qP).other _ _ qP).other _ _ qP⟩
  have VB:Hid (aB T V ((((tD.setCell ⟨X,5,none⟩ (i64 (-u1))).setCell ⟨X,6,none⟩ (i64 (1+u2))).setCell ⟨X,7,none⟩ (i64 u3)).setCell ⟨X,8,none⟩ (i64 1))):=(((za.o.setCell (p:=⟨X,5,none⟩) GQ.o _).setCell (p:=⟨X,6,none⟩) GQ.o _).setCell (p:=⟨X,7,none⟩) GQ.o _).setCell (p:=⟨X,8,none⟩) GQ.o _;have VC:Hid (aT ((((tD.setCell ⟨X,5,none⟩ (i64 (-u1))).setCell ⟨X,6,none⟩ (i64 (1+u2))).setCell ⟨X,7,none⟩ (i64 u3)).setCell ⟨X,8,none⟩ (i64 1)) R 66 mj.cells):=(((Vy.o.other _ _ Hj).other _ _ Hj).other _ _ Hj).other _ _ Hj;have HQ:Hid ((({x2 with uH:= -u1,yt:=1+u2,vw:=u3,Bn:=1}:bn).uH= -u1)/\ -3<= -u1/\ -u1<=0/\1<=1+u2/\1+u2<=2/\0<=u3/\u3<=3):=⟨rfl,ae,ae,ae,ae,ae,ae⟩;clear P8 Vw Vx iu oA eW hu1 Yl hu3 Ns Vv Kj za YV BQ YW Vy YX;go_upto_region 5 with fail
  clear c5 c6 c7 c8 f5 f6 f7 f8 q1 q2
  obtain ⟨x3,Np,Kk,LS,P9,VD⟩: ∃x:bn,(x.name=aW 108 i/\x.dL=(fr:Int)/\x.ld=(tb:Int)/\(1<=x.rn/\x.rn<=4/\1<=x.rd/\x.rd<=2)/\(-3<=x.uH/\x.uH<=0/\1<=x.yt/\x.yt<=2/\0<=x.vw/\x.vw<=3/\x.Bn=1)/\(4<=x.dO/\x.dO<=43)/\(x.dO<=x.kK/\x.kK<=62)/\x.away= []/\x.aa=none/\x.ac=0)/\aT ((((tD.setCell ⟨X,5,none⟩ (i64 (-u1))).setCell ⟨X,6,none⟩ (i64 (1+u2))).setCell ⟨X,7,none⟩ (i64 u3)).setCell ⟨X,8,none⟩ (i64 1)) X 66 x.cells/\bO ((((tD.setCell ⟨X,5,none⟩ (i64 (-u1))).setCell ⟨X,6,none⟩ (i64 (1+u2))).setCell ⟨X,7,none⟩ (i64 u3)).setCell ⟨X,8,none⟩ (i64 1)) T a c l/\aB T V ((((tD.setCell ⟨X,5,none⟩ (i64 (-u1))).setCell ⟨X,6,none⟩ (i64 (1+u2))).setCell ⟨X,7,none⟩ (i64 u3)).setCell ⟨X,8,none⟩ (i64 1))/\aT ((((tD.setCell ⟨X,5,none⟩ (i64 (-u1))).setCell ⟨X,6,none⟩ (i64 (1+u2))).setCell ⟨X,7,none⟩ (i64 u3)).setCell ⟨X,8,none⟩ (i64 1)) R 66 mj.cells:=by
   obtain ⟨h1,h2,h3,h4,h5,h6,h7,h8,h9,h10⟩:=pY.o;exact ⟨{x2 with uH:= -u1,yt:=1+u2,vw:=u3,Bn:=1},⟨h1,h2,h3,h4,⟨HQ.o.2.1,HQ.o.2.2.1,HQ.o.2.2.2.1,HQ.o.2.2.2.2.1,HQ.o.2.2.2.2.2.1,HQ.o.2.2.2.2.2.2,rfl⟩,h6,h7,h8,h9,h10⟩,Vz.o,VA.o,VB.o,VC.o⟩
  clear Vz VA VB VC HQ pY;generalize ((((tD.setCell ⟨X,5,none⟩ (i64 (-u1))).setCell ⟨X,6,none⟩ (i64 (1+u2))).setCell ⟨X,7,none⟩ (i64 u3)).setCell ⟨X,8,none⟩ (i64 1))=W7t at*;have vt:=ah Np;have BD:=ah Kk;have Ma:=ah LS;have kR:=ah P9;have sw:=ah VD
  clear Np Kk LS P9 VD;go_wp2_with fail
  refine (R6.o W7t kR.o Ma.o).mono ?_;rintro e W8 ⟨wa,kz,hs,rfl,Ch,hI,hrg,Jt,P8,iu⟩;have Mb:=ah (BD.o.but iu qP);have EC:aT (W8.setCell ⟨X,11,none⟩ (.slice wa hs.length kz)) X 66 ({x3 with aa:=wa,ac:=kz,away:=hs}:bn).cells:=Mb.o.set 11 (.slice wa hs.length kz);have c11:=Mb.o.cl 11 (.slice x3.aa x3.away.length x3.ac) rfl;have f11:=Mb.o.frozen 11
  have HT9:Hid (bO (W8.setCell ⟨X,11,none⟩ (.slice wa hs.length kz)) T a c l):=by
   obtain ⟨j,hj,hA⟩:=P8;exact ⟨j,hj,hA.other _ _ qP⟩
  have Kj:Hid (aB T V (W8.setCell ⟨X,11,none⟩ (.slice wa hs.length kz))):=(kR.o.trans iu).setCell (p:=⟨X,11,none⟩) GQ.o _;have HR9:Hid (aT (W8.setCell ⟨X,11,none⟩ (.slice wa hs.length kz)) R 66 mj.cells):=(sw.o.but iu sO).other _ _ Hj;have HI9:Hid (aS (W8.setCell ⟨X,11,none⟩ (.slice wa hs.length kz)) wa kz hs):=aS.eH hI ((aB.refl X W8).set rfl _) (λp hp=>by have h1:=Jt p hp;have h2:=BD.o.lt;omega);have Mc:Hid (Fr V.heap.size wa):=Jt.mono kR.o.size;have HWR:Hid (∀p,wa=some p->p.block≠R):=λp hp=>by have h1:=Jt p hp;have h2:=sw.o.lt;omega
  obtain ⟨x4,gG⟩: ∃x4:bn,x4={x3 with aa:=wa,ac:=kz,away:=hs}:=⟨_,rfl⟩;rw [<-gG]at EC
  have BF:Hid (qH x4 i fr tb hours/\x4.aa=wa/\x4.ac=kz/\x4.away=hs):=by
   obtain ⟨h1,h2,h3,h4,⟨YY,YZ,Y_,VE,h5e,h5f,h5g⟩,h6,h7,h8,h9,h10⟩:=vt.o;rw [gG];exact ⟨⟨h1,h2,h3,h4,⟨YY,YZ,Y_,VE⟩,⟨h5e,h5f,h5g⟩,h6,h7,Ch,hrg⟩,rfl,rfl,rfl⟩
  have HC:=ah EC;clear Ch hI hrg Jt P8 iu Mb BD Ma kR sw vt R6 gl EC gG;go_upto_region 6 with fail
  clear c11 f11;generalize (W8.setCell ⟨X,11,none⟩ (.slice wa hs.length kz))=W9 at*;obtain ⟨c0,c1,c2,c3,c4,c5,c6,c7,c8,c9,c10,c11⟩:=bn.at HC.o;go_wp2_with (refine cX rfl 66 _ _ rfl R mj.cells x4.cells HR9.o rfl rfl ax rfl rfl ?_;intro Ci my eW)
  have za:=ah (Kj.o.over eW GR.o);have F_:=ah (HT9.o.but eW (λe=>sO e.symm))
  have Ga:Hid (aS Ci wa kz hs):=HI9.o.eH eW HWR.o;obtain ⟨d0,d1,d2,d3,d4,d5,d6,d7,d8,d9,d10,d11⟩:=bn.at my;clear c0 c1 c2 c3 c4 c5 c6 c7 c8 c9 c10 c11 eW my;exact bodyPost_ret (v:= .agg x4.cells.toArray) (by simp [results,results24,go_sem,d0,d1,d2,d3,d4,d5,d6,d7,d8,d9,d10,d11,bn.cells]) rfl ⟨x4,rfl,BF.o.1,by rw [BF.o.2.1,BF.o.2.2.1,BF.o.2.2.2];exact Ga.o,by rw [BF.o.2.1];exact Mc.o,F_.o,za.o⟩
 .go_upto_region 5 with fail
  obtain ⟨x3,Np,Kk,LS,P9,VD⟩: ∃x:bn,(x.name=aW 108 i/\x.dL=(fr:Int)/\x.ld=(tb:Int)/\(1<=x.rn/\x.rn<=4/\1<=x.rd/\x.rd<=2)/\(-3<=x.uH/\x.uH<=0/\1<=x.yt/\x.yt<=2/\0<=x.vw/\x.vw<=3/\x.Bn=1)/\(4<=x.dO/\x.dO<=43)/\(x.dO<=x.kK/\x.kK<=62)/\x.away= []/\x.aa=none/\x.ac=0)/\aT W7 X 66 x.cells/\bO W7 T a c l/\aB T V W7/\aT W7 R 66 mj.cells:=by
   obtain ⟨h1,h2,h3,h4,⟨YY,YZ,Y_,VE⟩,h6,h7,h8,h9,h10⟩:=pY.o;exact ⟨x2,⟨h1,h2,h3,h4,⟨ae,ae,ae,ae,ae,ae,VE⟩,h6,h7,h8,h9,h10⟩,YV.o,YX.o,Ns.o,YW.o⟩
  clear YV YX Ns YW pY;have vt:=ah Np;have BD:=ah Kk;have Ma:=ah LS;have kR:=ah P9;have sw:=ah VD
  clear Np Kk LS P9 VD;go_wp2_with fail
  refine (R6.o W7 kR.o Ma.o).mono ?_;rintro e W8 ⟨wa,kz,hs,rfl,Ch,hI,hrg,Jt,P8,iu⟩;have Mb:=ah (BD.o.but iu qP);have EC:aT (W8.setCell ⟨X,11,none⟩ (.slice wa hs.length kz)) X 66 ({x3 with aa:=wa,ac:=kz,away:=hs}:bn).cells:=Mb.o.set 11 (.slice wa hs.length kz);have c11:=Mb.o.cl 11 (.slice x3.aa x3.away.length x3.ac) rfl;have f11:=Mb.o.frozen 11
  have HT9:Hid (bO (W8.setCell ⟨X,11,none⟩ (.slice wa hs.length kz)) T a c l):=by
   obtain ⟨j,hj,hA⟩:=P8;exact ⟨j,hj,hA.other _ _ qP⟩
  have Kj:Hid (aB T V (W8.setCell ⟨X,11,none⟩ (.slice wa hs.length kz))):=(kR.o.trans iu).setCell (p:=⟨X,11,none⟩) GQ.o _;have HR9:Hid (aT (W8.setCell ⟨X,11,none⟩ (.slice wa hs.length kz)) R 66 mj.cells):=(sw.o.but iu sO).other _ _ Hj;have HI9:Hid (aS (W8.setCell ⟨X,11,none⟩ (.slice wa hs.length kz)) wa kz hs):=aS.eH hI ((aB.refl X W8).set rfl _) (λp hp=>by have h1:=Jt p hp;have h2:=BD.o.lt;omega);have Mc:Hid (Fr V.heap.size wa):=Jt.mono kR.o.size;have HWR:Hid (∀p,wa=some p->p.block≠R):=λp hp=>by have h1:=Jt p hp;have h2:=sw.o.lt;omega
  obtain ⟨x4,gG⟩: ∃x4:bn,x4={x3 with aa:=wa,ac:=kz,away:=hs}:=⟨_,rfl⟩;rw [<-gG]at EC
  have BF:Hid (qH x4 i fr tb hours/\x4.aa=wa/\x4.ac=kz/\x4.away=hs):=by
   obtain ⟨h1,h2,h3,h4,⟨YY,YZ,Y_,VE,h5e,h5f,h5g⟩,h6,h7,h8,h9,h10⟩:=vt.o;rw [gG];exact ⟨⟨h1,h2,h3,h4,⟨YY,YZ,Y_,VE⟩,⟨h5e,h5f,h5g⟩,h6,h7,Ch,hrg⟩,rfl,rfl,rfl⟩
  have HC:=ah EC;clear Ch hI hrg Jt P8 iu Mb BD Ma kR sw vt R6 gl EC gG;go_upto_region 6 with fail
  clear c11 f11;generalize (W8.setCell ⟨X,11,none⟩ (.slice wa hs.length kz))=W9 at*;obtain ⟨c0,c1,c2,c3,c4,c5,c6,c7,c8,c9,c10,c11⟩:=bn.at HC.o;go_wp2_with (refine cX rfl 66 _ _ rfl R mj.cells x4.cells HR9.o rfl rfl ax rfl rfl ?_;intro Ci my eW)
  have za:=ah (Kj.o.over eW GR.o);have F_:=ah (HT9.o.but eW (λe=>sO e.symm))
  have Ga:Hid (aS Ci wa kz hs):=HI9.o.eH eW HWR.o;obtain ⟨d0,d1,d2,d3,d4,d5,d6,d7,d8,d9,d10,d11⟩:=bn.at my;clear c0 c1 c2 c3 c4 c5 c6 c7 c8 c9 c10 c11 eW my;exact bodyPost_ret (v:= .agg x4.cells.toArray) (by simp [results,results24,go_sem,d0,d1,d2,d3,d4,d5,d6,d7,d8,d9,d10,d11,bn.cells]) rfl ⟨x4,rfl,BF.o.1,by rw [BF.o.2.1,BF.o.2.2.1,BF.o.2.2.2];exact Ga.o,by rw [BF.o.2.1];exact Mc.o,F_.o,za.o⟩
