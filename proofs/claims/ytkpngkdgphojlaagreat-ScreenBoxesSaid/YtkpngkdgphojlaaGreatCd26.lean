/- Texts of the proof. -/
import Derived.Test.YtkpngkdgphojlaaGreatCd2
set_option linter.all false
set_option maxHeartbeats 400000
namespace Go.Proofs.YtkpngkdgphojlaaGreat
open Go.Proofs.Tryz
theorem o7 (x:Nat):val [x]=x:=by simp [val]
theorem oI (n:Nat):val (List.replicate n 0)=0:=by
 induction n with
 |zero=>rfl
 |succ n ih=>simp [List.replicate_succ,val,ih]
theorem eR {l:List Nat} (h:Small l) (i:Nat):limb l i<4294967296:=by
 unfold limb;by_cases hi:i<l.length
 ·rw [List.getElem?_eq_getElem hi];exact h _ (List.getElem_mem hi)
 ·rw [List.getElem?_eq_none (by omega)];simp
theorem rH {l:List Nat} {k:Nat} (h:k<l.length):l.take (k+1)=l.take k++ [limb l k]:=by
 rw [List.take_succ_eq_append_getElem h];simp [limb,h]
theorem dT {l:List Nat} {k:Nat} (h:k<l.length):val (l.take (k+1))=val (l.take k)+4294967296^k*limb l k:=by
 rw [rH h,lL,o7,List.length_take,Nat.min_eq_left (by omega)]
theorem wS {l:List Nat} {k:Nat} (h:k<l.length):val (l.drop k)=limb l k+4294967296*val (l.drop (k+1)):=by
 rw [List.drop_eq_getElem_cons h];simp [val,limb,h]
theorem Oc {n k:Nat}:k<len n↔4294967296^k≤n:=by
 have:= @cj n k;omega
theorem BA {n:Nat}:len n=0↔n=0:=by
 have:= @cj n 0;simp at this;omega
theorem mm {n:Nat}:0<len n↔0<n:=by
 have:= @BA n;omega
theorem mr {n:Nat}:len n≤2↔n<18446744073709551616:=by have:= @cj n 2;simpa using this
theorem EJ {l:List Nat} (h:Small l) (h1:0<l.length) (h2:limb l (l.length-1)≠0):len (val l)=l.length:=by
 have h3:=oN h;have h4:=dT (l:=l) (k:=l.length-1) (by omega);rw [show l.length-1+1=l.length from by omega,List.take_length]at h4
 have h5:4294967296^(l.length-1)≤val l:=by
  rw [h4];have:4294967296^(l.length-1)*1≤4294967296^(l.length-1)*limb l (l.length-1):=Nat.mul_le_mul_left _ (by omega);omega
 have:=Oc.2 h5;omega
theorem val_inj: ∀{l m:List Nat},Small l→Small m→l.length=m.length→val l=val m→l=m
 | [],[],_,_,_,_=>rfl
 |x::xs,y::ys,hl,hm,h,hv=>by
  have a:=hl x (List.mem_cons_self ..);have b:=hm y (List.mem_cons_self ..);simp only [val]at hv;simp only [List.length_cons]at h;have e:val xs=val ys:=by omega
  have e':x=y:=by omega
  rw [val_inj hl.tail hm.tail (by omega) e,e']
theorem BB {l:List Nat} (h:Small l) (h1:0<l.length) (h2:l.length=len (val l)):limb l (l.length-1)≠0:=by
 intro h3;have h4:=dT (l:=l) (k:=l.length-1) (by omega);rw [show l.length-1+1=l.length from by omega,List.take_length,h3]at h4;have h5:=kJ (h.take (l.length-1));rw [List.length_take,Nat.min_eq_left (by omega)]at h5;have h6:len (val l)≤l.length-1:=cj.2 (by omega);omega
theorem jf (l:List Nat) (k:Nat) (h:k<l.length):val l=val (l.take k)+4294967296^k*(limb l k+4294967296*val (l.drop (k+1))):=by
 rw [←wS h];exact oz l k (by omega)
theorem n7 {l m:List Nat} (hl:Small l) {k:Nat} (h1:k<l.length) (h2:k<m.length) (hd:val (l.drop (k+1))=val (m.drop (k+1))) (hlt:limb l k<limb m k):val l<val m:=by
 rw [jf l k h1,jf m k h2,hd];have h3:=kJ (hl.take k);rw [List.length_take,Nat.min_eq_left (by omega)]at h3;generalize val (m.drop (k+1))=d at*
 have h4:4294967296^k*(limb l k+4294967296*d)+4294967296^k≤4294967296^k*(limb m k+4294967296*d):=by
  rw [←Nat.mul_succ];exact Nat.mul_le_mul_left _ (by omega)
 omega
theorem zf {l:List Nat} {k:Nat} (h:k<l.length) (x:Nat):val (l.set k x)+4294967296^k*limb l k=val l+4294967296^k*x:=by
 have h1:=jf l k h;have h2:=jf (l.set k x) k (by simpa using h);rw [List.take_set_of_le (by omega),List.drop_set_of_lt (by omega)]at h2;have h3:limb (l.set k x) k=x:=by simp [limb,h]
 rw [h3]at h2;rw [Nat.mul_add]at h1 h2;omega
theorem sT {l:List Nat} {k t:Nat} (h:k≠t) (x:Nat):limb (l.set k x) t=limb l t:=by simp [limb,h]
theorem vh (n i:Nat):limb (List.replicate n 0) i=0:=by
 unfold limb;by_cases h:i<n<;>simp [h]
theorem iV {l:List Nat} {i:Nat} (h:l.length≤i):limb l i=0:=by unfold limb;rw [List.getElem?_eq_none h];rfl
theorem qh {L M r:List Nat} {i q x y z q':Nat} (h1:i<L.length) (hr:r.length=i) (hv:val r+val (M.take i)=val (L.take i)+4294967296^i*q) (hM:i<M.length∨M.length≤i)
 (hx:limb L i=x) (hy:limb M i=y) (hz:z+y+q=x+4294967296*q'):
 val (r++ [z])+val (M.take (i+1))=val (L.take (i+1))+4294967296^(i+1)*q':=by
 rw [lL,o7,hr,dT h1,hx]
 have e:val (M.take (i+1))=val (M.take i)+4294967296^i*y:=by
  rcases hM with h|h
  ·rw [←hy];exact dT h
  ·rw [List.take_of_length_le (by omega),List.take_of_length_le (by omega),←hy,iV h];simp
 rw [e,Nat.pow_succ,Nat.mul_assoc];generalize 4294967296^i=p at*
 have e2:p*z+p*y+p*q=p*x+p*(4294967296*q'):=by
  rw [←Nat.mul_add,←Nat.mul_add,←Nat.mul_add,hz]
 omega
open Go.RowKit Go.Sort
theorem kD (w:World) (a:Option Addr) (k c n:Nat) (h:Raw w a k c n):
 Calls prog 193 #[.slice a k c] w fun e w'=>e= .returned (.slice a (len n) c)∧w=w':=by
 obtain ⟨l,rfl,rfl,h⟩:=h;have h1:=h.le;have h2:=h.cap;go_enter func193,ntmps193
 go_wp2
 go_loop [3] (fun i=> ∃k:Nat,k≤l.length∧val (l.take k)=val l∧i= .int .i64 k) (fun i=>(intOf i).toNat)
 case atStart=>exact ⟨_,Nat.le_refl _,by rw [List.take_length],rfl⟩
 case round=>
  obtain ⟨k,hk,hv,rfl⟩:=hrel;have HV:=ae hv;clear hv
  by_cases h0:0<k
  ·obtain ⟨b,o,rfl⟩:=h.at (by omega)
   have hc:=h.cellAt (k-1) (by omega);by_cases hz:limb l (k-1)=0
   ·have hz':((limb l (k-1):Nat):Int)=0:=by omega
    rw [hz']at hc;have HZ:=ae hz;clear hz hz'
    go_wp2
    go_round
    case rel=>
     refine ⟨k-1,by omega,?_,by go_num⟩;have:=dT (l:=l) (k:=k-1) (by omega);rw [HZ.o,show k-1+1=k from by omega,HV.o]at this;rw [this];simp
    case measure=>simp [intOf];omega
   ·have hz':(((limb l (k-1):Nat):Int)==0)=false:=by rw [beq_eq_false_iff_ne];omega
    have HZ:=ae hz;clear hz
    go_wp2
    go_ret
    have e:len (val l)=k:=by
     rw [←HV.o];have:=EJ (h.small.take k) (by rw [List.length_take];omega) (by rw [List.length_take,Nat.min_eq_left hk,qO (by omega)];exact HZ.o);rw [this,List.length_take,Nat.min_eq_left hk]
    exact ⟨xk e.symm,rfl⟩
  ·go_wp2
   go_ret
   have e:len (val l)=k:=by
    rw [←HV.o,show k=0 from by omega];rfl
   exact ⟨xk e.symm,rfl⟩
theorem IX (w:World) (a:Option Addr) (k c n:Nat) (h:Raw w a k c n) (hk:k≤2):
 Calls prog 194 #[.slice a k c] w fun e w'=>e= .returned (.int .u64 (n:Nat))∧w=w':=by
 obtain ⟨l,rfl,rfl,h⟩:=h;have hs:=h.small;match l,hk,h,hs with
 | [],_,h,_=>
   go_enter func194,ntmps194
   go_wp2
   refine wp_loop_rounds 1 ?_;rw [rounds_succ]
   go_wp2
   go_ret;exact ⟨rfl,rfl⟩
 | [x],_,h,hs=>
   obtain ⟨b,o,rfl⟩:=h.at (by simp);have hc:=h.cellAt 0 (by simp);have hx:=hs x (by simp);simp [limb]at hc;go_enter func194,ntmps194
   go_wp2
   refine wp_loop_rounds 2 ?_;rw [rounds_succ]
   go_wp2
   rw [rounds_succ];go_wp2
   go_ret;exact ⟨cS (by simp [val];exact or_zero x (by omega)),rfl⟩
 | [x,y],_,h,hs=>
   obtain ⟨b,o,rfl⟩:=h.at (by simp);have hc:=h.cellAt 0 (by simp);have hc1:=h.cellAt 1 (by simp);have hx:=hs x (by simp);have hy:=hs y (by simp);simp [limb]at hc hc1;go_enter func194,ntmps194
   go_wp2
   refine wp_loop_rounds 3 ?_;rw [rounds_succ]
   go_wp2
   rw [rounds_succ];go_wp2
   rw [rounds_succ];go_wp2
   go_ret;exact ⟨cS (by rw [or_zero x (by omega),Qm x y hx hy];simp [val]),rfl⟩
theorem fz (w:World) (a:Option Addr) (k c n:Nat) (h:Raw w a k c n) (hn:n<18446744073709551616):
 Calls prog 165 #[.slice a k c] w fun e w'=>e= .returned (.tuple #[.int .u64 (n:Nat),.bool true])∧w=w':=by
 have h2:=mr.2 hn;have hc:=h.cut;go_enter func165,ntmps165
 go_wp2_with (first|(go_at_call 193;refine (kD _ _ _ _ _ h).mono ?_;rintro e w' ⟨rfl,rfl⟩)|(go_at_call 194;refine (IX _ _ _ _ _ hc h2).mono ?_;rintro e w' ⟨rfl,rfl⟩))
 go_ret2
 exact ⟨rfl,rfl⟩
theorem fC (w:World) (n:Nat) (hn:n<18446744073709551616):
 Calls prog 184 #[.int .u64 (n:Nat)] w (oO n w):=by
 have hr:Raw (w.alloc (Obj.cells #[.int .u32 ((n:Int) % 4294967296),.int .u32 ((n:Int)/4294967296)] 185)) (some ⟨w.heap.size,0,none⟩) 2 2 n:=by
  have ha:=aJ.alloc w 185 (fN [n % 4294967296,n/4294967296]);exact ⟨_,rfl,by simp [val];omega,ha.limbs (Small.append (l:= [_]) (m:= [_]) (Small.one (by omega)) (Small.one (by omega))) (by simp)⟩
 go_enter func184,ntmps184
 go_wp2_with fail
 refine (kD _ _ _ _ _ hr).mono ?_;rintro e w' ⟨rfl,rfl⟩;go_wp2
 go_ret;exact ⟨_,_,rfl,hr.cut,Fr.some (Nat.le_refl _),(Ext.refl _).alloc _⟩
theorem jA (w:World) (a b:Option Addr) (k k' c c' n m:Nat) (ha:Raw w a k c n) (hb:Raw w b k' c' m):
 Calls prog 187 #[.slice a k c,.slice b k' c'] w fun e w'=>e= .returned (.int .i64 (kt n m))∧Quiet w w':=by
 have ha':=ha.cut;have hb':=hb.cut;have la:=ha'.le;have lb:=hb'.le;by_cases hne:len n=len m
 ·obtain ⟨l,hl,hv,hA⟩:=ha'
  obtain ⟨l',hl',hv',hB⟩:=hb';have s1:=hA.small;have s2:=hB.small;have Dx:(((len n:Nat):Int) !=((len m:Nat):Int))=false:=by simp [hne]
  rw [←hne]at hl' lb Dx;have HL:=ae hl;have rI:=ae hl';have HV:=ae hv;have IY:=ae hv';have HN:=ae hne
  clear hl hl' hv hv' hne;go_enter func187,ntmps187
  go_wp2_with fail
  refine (kD _ _ _ _ _ ha).mono ?_;rintro e w' ⟨rfl,rfl⟩;go_wp2_with fail
  refine (kD _ _ _ _ _ hb).mono ?_;rintro e w' ⟨rfl,rfl⟩;rw [←HN.o];go_wp2
  go_loopw [5] (fun i wr=> ∃j:Nat,j≤len n∧l.drop j=l'.drop j∧i= .int .i64 ((j:Int)-1)∧Quiet w wr) (fun i _=>(intOf i+1).toNat)
  case atStart=>exact ⟨len n,Nat.le_refl _,by rw [List.drop_of_length_le (by rw [HL.o];exact Nat.le_refl _),List.drop_of_length_le (by rw [rI.o];exact Nat.le_refl _)],rfl,Quiet.refl _⟩
  case round=>
   obtain ⟨j,hj,hd,rfl,hq⟩:=hrel;have HD:=ae hd;clear hd
   by_cases h0:0<j
   ·obtain ⟨i,rfl⟩: ∃i,j=i+1:=⟨j-1,by omega⟩
    rw [show(((i+1:Nat):Int)-1)=(i:Int)from by omega];obtain ⟨p,o,rfl⟩:=hA.at (by rw [HL.o];omega);obtain ⟨p',o',rfl⟩:=hB.at (by rw [rI.o];omega);have hc:=(hA.ext hq.ext).cellAt i (by rw [HL.o];omega);have hc':=(hB.ext hq.ext).cellAt i (by rw [rI.o];omega);have hx:=eR s1 i;have hy:=eR s2 i;have g1:(i:Int)<(len n:Int):=by omega
    have g2:(0:Int)≤(i:Int):=by omega
    by_cases c1:limb l i<limb l' i
    ·have d1:decide (((limb l i:Nat):Int)<((limb l' i:Nat):Int))=true:=by simp;omega
     go_wp2
     go_quiet (fail)
     go_wp2
     go_ret;refine ⟨cS ?_,hq.drewN _⟩;have:=n7 s1 (k:=i) (by rw [HL.o];omega) (by rw [rI.o];omega) (by rw [HD.o]) c1;rw [HV.o,IY.o]at this;unfold kt;rw [if_pos this]
    ·by_cases c2:limb l' i<limb l i
     ·have d1:decide (((limb l i:Nat):Int)<((limb l' i:Nat):Int))=false:=by simp;omega
      have d2:decide (((limb l' i:Nat):Int)<((limb l i:Nat):Int))=true:=by simp;omega
      go_wp2
      go_quiet (fail)
      go_wp2
      go_quiet (fail)
      go_wp2
      go_ret;refine ⟨cS ?_,(hq.drewN _).drewN _⟩;have:=n7 s2 (k:=i) (by rw [rI.o];omega) (by rw [HL.o];omega) (by rw [HD.o]) c2;rw [HV.o,IY.o]at this;unfold kt;rw [if_neg (by omega),if_neg (by omega)]
     ·have d1:decide (((limb l i:Nat):Int)<((limb l' i:Nat):Int))=false:=by simp;omega
      have d2:decide (((limb l' i:Nat):Int)<((limb l i:Nat):Int))=false:=by simp;omega
      go_wp2
      go_quiet (fail)
      go_wp2
      go_quiet (fail)
      go_wp2
      go_roundw
      case rel=>
           refine ⟨i,by omega,?_,rfl,hq.drewN _⟩;have e1:limb l i=limb l' i:=by omega
           have e2:i<l.length:=by rw [HL.o];omega
           have e3:i<l'.length:=by rw [rI.o];omega
           rw [List.drop_eq_getElem_cons e2,List.drop_eq_getElem_cons e3,HD.o];simp only [limb,List.getElem?_eq_getElem e2,List.getElem?_eq_getElem e3,Option.getD_some]at e1;rw [e1]
      case measure=>simp [intOf]
   ·obtain rfl:j=0:=by omega
    go_wp2
    go_ret;refine ⟨cS ?_,hq⟩;have:n=m:=by rw [←HV.o,←IY.o];have:=HD.o;simp at this;rw [this]
    unfold kt;rw [if_neg (by omega),if_pos this]
 ·have Dx:(((len n:Nat):Int) !=((len m:Nat):Int))=true:=by simp;omega
  by_cases hlt:len n<len m
  ·go_enter func187,ntmps187
   go_wp2_with fail
   refine (kD _ _ _ _ _ ha).mono ?_;rintro e w' ⟨rfl,rfl⟩;go_wp2_with fail
   refine (kD _ _ _ _ _ hb).mono ?_;rintro e w' ⟨rfl,rfl⟩;go_wp2
   go_ret;refine ⟨cS ?_,Quiet.refl _⟩
   have:n<m:=by
    apply Nat.lt_of_not_le;intro h;have:=dJ h;omega
   unfold kt;rw [if_pos this]
  ·go_enter func187,ntmps187
   go_wp2_with fail
   refine (kD _ _ _ _ _ ha).mono ?_;rintro e w' ⟨rfl,rfl⟩;go_wp2_with fail
   refine (kD _ _ _ _ _ hb).mono ?_;rintro e w' ⟨rfl,rfl⟩;go_wp2
   go_ret;refine ⟨cS ?_,Quiet.refl _⟩
   have:m<n:=by
    apply Nat.lt_of_not_le;intro h;have:=dJ h;omega
   unfold kt;rw [if_neg (by omega),if_neg (by omega)]
theorem Tryz.info_u32:(Tryz.prog.info? 185).map (fun i=>(i.zero,i.size,i.bytes))=some (some (.int .u32 0),1,4):=by kernel_rfl
def IZ (n:Nat) (w:World) (e:Ending) (w':World):Prop:= ∃a c,e= .returned (.tuple #[.slice a (len n) c,.bool true])∧Raw w' a (len n) c n∧Fr w.heap.size a∧Ext w w'
theorem I0 {P' P L':List Nat} {i j q x:Nat} (hj:j<L'.length) (hi:i+j<P'.length) (hv:val P'+4294967296^(i+j)*q=val P+4294967296^i*(x*val (L'.take j))):
 val (P'.set (i+j) ((q+(x*limb L' j+limb P' (i+j))) % 4294967296))+4294967296^(i+(j+1))*((q+(x*limb L' j+limb P' (i+j)))/4294967296)=val P+4294967296^i*(x*val (L'.take (j+1))):=by
 have h1:=zf hi ((q+(x*limb L' j+limb P' (i+j))) % 4294967296);rw [dT hj,show i+(j+1)=i+j+1 from by omega,Nat.pow_succ,Nat.mul_assoc,Nat.mul_add x,Nat.mul_add (4294967296^i)]
 have h2:4294967296^i*(x*(4294967296^j*limb L' j))=4294967296^(i+j)*(x*limb L' j):=by
  rw [Nat.pow_add,Nat.mul_left_comm x,Nat.mul_assoc]
 rw [h2];generalize 4294967296^(i+j)=p at*
 have h3:p*((q+(x*limb L' j+limb P' (i+j))) % 4294967296)+p*(4294967296*((q+(x*limb L' j+limb P' (i+j)))/4294967296))=p*q+(p*(x*limb L' j)+p*limb P' (i+j)):=by
  rw [←Nat.mul_add,Nat.mod_add_div,Nat.mul_add,Nat.mul_add]
 omega
def rJ (q r:Nat) (w:World) (e:Ending) (w':World):Prop:= ∃a c a' c',e= .returned (.tuple #[.slice a (len q) c,.slice a' (len r) c',.bool true])∧Raw w' a (len q) c q∧Fr w.heap.size a∧Raw w' a' (len r) c' r∧Fr w.heap.size a'∧Ext w w'
theorem BC {X:List Nat} (hs:Small X) {t:Nat} (h:t≤X.length):val (X.take t)<4294967296^t:=by
 have:=kJ (hs.take t);rwa [List.length_take,Nat.min_eq_left h]at this
def lz (x:Nat):Nat:=32-Lib.bitLen x
structure Od (X Y:Nat) (s:Int) (x y u1 u2 v1 v2:Nat):Prop where
 sg:s=1∨s= -1
 ex:(x:Int)=s*(u1*X-v1*Y)
 ey:(y:Int)=s*(v2*Y-u2*X)
 det:(u1:Int)*v2-u2*v1=s
 le:y≤x
 uv:u2≤v2
 sum:u1+u2≤v1+v2
 pos:1≤v2
theorem Od.start {X Y:Nat} (h:Y≤X):Od X Y 1 X Y 1 0 0 1:=
 ⟨Or.inl rfl,by simp,by simp,by simp,h,by omega,by omega,by omega⟩
theorem Od.step {X Y:Nat} {s:Int} {x y u1 u2 v1 v2:Nat} (h:Od X Y s x y u1 u2 v1 v2) (h0:0<y):Od X Y (-s) y (x % y) u2 (u1+x/y*u2) v2 (v1+x/y*v2):=by
 have hm:(x:Int)=(x/y:Nat)*y+(x % y:Nat):=by rw [←Int.natCast_mul,←Int.natCast_add,Nat.div_add_mod']
 have hq:1≤x/y:=(Nat.le_div_iff_mul_le h0).2 (by have:=h.le;omega);have hr:=Nat.mod_lt x h0;obtain ⟨hs,ex,ey,det,-,uv,sum,pos⟩:=h;generalize x/y=q at*;generalize x % y=r at*;have h1:u2*(q-1)≤v2*(q-1):=Nat.mul_le_mul_right _ uv;obtain ⟨k,rfl⟩: ∃k,q=k+1:=⟨q-1,by omega⟩;simp only [Nat.add_sub_cancel]at h1;rw [Nat.mul_comm u2,Nat.mul_comm v2]at h1;refine ⟨by omega,?_,?_,?_,by omega,?_,?_,?_⟩
 ·rw [ey];grind
 ·have e:(r:Int)=x-((k+1:Nat):Int)*y:=by omega
  rw [e,ex,ey];push_cast;grind
 ·push_cast;grind
 ·rw [Nat.add_mul,Nat.add_mul,Nat.one_mul,Nat.one_mul];omega
 ·rw [Nat.add_mul,Nat.add_mul,Nat.one_mul,Nat.one_mul];omega
 ·rw [Nat.add_mul,Nat.one_mul];omega
structure Dy (a b:Nat) (even:Bool) (u0 v0 u1 v1 A B:Nat):Prop where
 fst:if even then A+v0*b=u0*a else A+u0*a=v0*b
 snd:if even then B+u1*a=v1*b else B+v1*b=u1*a
 le:B≤A
 ea:a=v1*A+v0*B
 eb:b=u1*A+u0*B
 pos:1≤v1
theorem tZ {x y E a1:Int} (hx:0≤x) (nN:x≤y) (ha:0≤a1) (hE:a1≤E):0≤x*a1∧x*a1≤y*E:=
 ⟨Int.mul_nonneg hx ha,Int.mul_le_mul nN hE ha (by omega)⟩
theorem Od.o {X Y a b E a1 b1:Nat} {s:Int} {x y u1 u2 v1 v2:Nat} (h:Od X Y s x y u1 u2 v1 v2) (ha:a=X*E+a1) (hb:b=Y*E+b1) (ha1:a1<E) (hb1:b1<E)
 (c1:v2≤y) (c2:v1+v2≤x-y): ∃A B,Dy a b (decide (s=1)) u1 v1 u2 v2 A B:=by
 obtain ⟨hs,ex,ey,det,le,uv,sum,pos⟩:=h;have ha':(a:Int)=X*E+a1:=by exact_mod_cast ha
 have hb':(b:Int)=Y*E+b1:=by exact_mod_cast hb
 have p1:=tZ (x:=(u2:Int)) (y:=v2) (E:=E) (a1:=a1) (by omega) (by omega) (by omega) (by omega);have p2:=tZ (x:=(v2:Int)) (y:=v2) (E:=E) (a1:=b1) (by omega) (by omega) (by omega) (by omega);have p3:=tZ (x:=((u1+u2:Nat):Int)) (y:=((v1+v2:Nat):Int)) (E:=E) (a1:=a1) (by omega) (by omega) (by omega) (by omega);have p4:=tZ (x:=((v1+v2:Nat):Int)) (y:=((v1+v2:Nat):Int)) (E:=E) (a1:=b1) (by omega) (by omega) (by omega) (by omega);have q1:(v2:Int)*E≤y*E:=Int.mul_le_mul_of_nonneg_right (by omega) (by omega);have q2:((v1+v2:Nat):Int)*E≤(x-y)*E:=Int.mul_le_mul_of_nonneg_right (by omega) (by omega);have eB:s*(v2*b-u2*a)=y*E+s*(v2*b1-u2*a1):=by rw [ha',hb',ey];grind
 have eD:s*(u1*a-v1*b)-s*(v2*b-u2*a)=(x-y)*E+s*(((u1+u2:Nat):Int)*a1-((v1+v2:Nat):Int)*b1):=by rw [ha',hb',ex,ey];push_cast;grind
 have hB:0≤s*(v2*b-u2*a):=by
  rw [eB];rcases hs with rfl|rfl<;>omega
 have hD:0≤s*(u1*a-v1*b)-s*(v2*b-u2*a):=by
  rw [eD];rcases hs with rfl|rfl<;>omega
 obtain ⟨B,eB'⟩:=Int.eq_ofNat_of_zero_le hB;obtain ⟨A,eA'⟩:=Int.eq_ofNat_of_zero_le (show 0≤s*(u1*a-v1*b) by omega);refine ⟨A,B,?_,?_,by omega,?_,?_,pos⟩
 ·rcases hs with rfl|rfl
  ·rw [if_pos (by decide)]
   apply Int.ofNat.inj;show((A+v1*b:Nat):Int)=((u1*a:Nat):Int)
   push_cast;grind
  ·rw [if_neg (by decide)]
   apply Int.ofNat.inj;show((A+u1*a:Nat):Int)=((v1*b:Nat):Int)
   push_cast;grind
 ·rcases hs with rfl|rfl
  ·rw [if_pos (by decide)]
   apply Int.ofNat.inj;show((B+u2*a:Nat):Int)=((v2*b:Nat):Int)
   push_cast;grind
  ·rw [if_neg (by decide)]
   apply Int.ofNat.inj;show((B+v2*b:Nat):Int)=((u2*a:Nat):Int)
   push_cast;grind
 ·apply Int.ofNat.inj
  show((a:Nat):Int)=((v2*A+v1*B:Nat):Int)
  push_cast
  rw [←eA',←eB'];rcases hs with rfl|rfl<;>grind
 ·apply Int.ofNat.inj
  show((b:Nat):Int)=((u2*A+u1*B:Nat):Int)
  push_cast
  rw [←eA',←eB'];rcases hs with rfl|rfl<;>grind
theorem Dy.gcd {a b:Nat} {even:Bool} {u0 v0 u1 v1 A B:Nat} (h:Dy a b even u0 v0 u1 v1 A B):Nat.gcd A B=Nat.gcd a b:=by
 obtain ⟨h1,h2,-,ea,eb,-⟩:=h;apply Nat.dvd_antisymm
 ·have d1:=Nat.gcd_dvd_left A B
  have d2:=Nat.gcd_dvd_right A B;apply Nat.dvd_gcd
  ·rw [ea];exact Nat.dvd_add (Nat.dvd_mul_left_of_dvd d1 _) (Nat.dvd_mul_left_of_dvd d2 _)
  ·rw [eb];exact Nat.dvd_add (Nat.dvd_mul_left_of_dvd d1 _) (Nat.dvd_mul_left_of_dvd d2 _)
 ·have d1:=Nat.gcd_dvd_left a b
  have d2:=Nat.gcd_dvd_right a b;cases even
  ·simp only [Bool.false_eq_true,if_false]at h1 h2
   apply Nat.dvd_gcd
   ·exact (Nat.dvd_add_left (Nat.dvd_mul_left_of_dvd d1 u0)).1 (by rw [h1];exact Nat.dvd_mul_left_of_dvd d2 _)
   ·exact (Nat.dvd_add_left (Nat.dvd_mul_left_of_dvd d2 v1)).1 (by rw [h2];exact Nat.dvd_mul_left_of_dvd d1 _)
  ·simp only [if_true]at h1 h2
   apply Nat.dvd_gcd
   ·exact (Nat.dvd_add_left (Nat.dvd_mul_left_of_dvd d2 v0)).1 (by rw [h1];exact Nat.dvd_mul_left_of_dvd d1 _)
   ·exact (Nat.dvd_add_left (Nat.dvd_mul_left_of_dvd d1 u1)).1 (by rw [h2];exact Nat.dvd_mul_left_of_dvd d2 _)
def sg (ev:Bool):Int:=if ev then-1 else 1
theorem qi (s:Bool) (n:Nat):decide (bA s n<0)=(s&&decide (0<n)):=by
 unfold bA;cases s
 ·simp
 ·simp
theorem eX (n:Nat):bA false n=n:=rfl
theorem jB (n:Nat):bA true n= -(n:Int):=rfl
theorem vk (s:Bool):bA s 0=0:=by cases s<;>rfl
theorem zg (s:Bool) (n:Nat):bA (!s) n= -bA s n:=by cases s<;>simp [bA]
theorem vn (w:World) (s:Bool) (a:Option Addr) (k c:Nat) (_hk:k≤1099511627776):
 Calls prog 183 #[.bool s,.slice a k c] w fun e w'=>e= .returned (.agg #[.bool (s&&decide (0<k)),.slice a k c])∧Ext w w':=by
 cases s
 ·go_enter func183,ntmps183
  go_wp2
  exact bodyPost_ret (v:= .agg #[.bool false,.slice a k c]) (by simp [results,results183,go_sem]) rfl ⟨rfl,(Ext.refl _).alloc _⟩
 ·by_cases h0:0<k
  ·have d0:decide (0<k)=true:=by simp [h0]
   go_enter func183,ntmps183
   go_wp2
   exact bodyPost_ret (v:= .agg #[.bool true,.slice a k c]) (by simp [results,results183,go_sem]) rfl ⟨by simp [h0],(Ext.refl _).alloc _⟩
  ·have d0:decide (0<k)=false:=by simp [h0]
   go_enter func183,ntmps183
   go_wp2
   exact bodyPost_ret (v:= .agg #[.bool false,.slice a k c]) (by simp [results,results183,go_sem]) rfl ⟨by simp [h0],(Ext.refl _).alloc _⟩
theorem bw.lA {w w1 w2:World} {s:Bool} {a:Option Addr} {c n:Nat} {e:Ending} (h:Raw w1 a (len n) c n) (hf:Fr w.heap.size a) (hx:Ext w w1)
 (he:e= .returned (.agg #[.bool (s&&decide (0<len n)),.slice a (len n) c])∧Ext w1 w2):bw (bA s n) w e w2:=by
 obtain ⟨rfl,hx2⟩:=he;refine ⟨a,c,?_,?_,hf,hx.trans hx2⟩
 ·rw [cd,qi];simp only [mm]
 ·rw [cd];exact h.ext hx2
theorem Lm (s t:Bool) (n m:Nat):bA (s !=t) (n*m)=bA s n*bA t m:=by
 cases s<;>cases t<;>simp [bA,Int.neg_mul,Int.mul_neg]
theorem Ln (s:Bool) (n m:Nat):bA s (n+m)=bA s n+bA s m:=by
 cases s<;>simp [bA];omega
theorem I1 (s:Bool) (n m:Nat) (h:m≤n):bA s (n-m)=bA s n+bA (!s) m:=by
 cases s<;>simp [bA]<;>omega
theorem I2 (s:Bool) (n m:Nat) (h:n≤m):bA (!s) (m-n)=bA s n+bA (!s) m:=by
 cases s<;>simp [bA]<;>omega
theorem I3 (n:Nat) (h0:0<n) (h:n≤9223372036854775808):IntKind.u64.wrap (-IntKind.u64.wrap (-(n:Int)))=(n:Int):=by
 rw [IntKind.wrap_u64,IntKind.wrap_u64];omega
theorem BD (w:World) (v:Int) (h1: -9223372036854775808≤v) (h2:v≤9223372036854775807):
 Calls prog 155 #[.int .i64 v] w (bw v w):=by
 by_cases h0:v<0
 ·obtain ⟨n,rfl⟩: ∃n:Nat,v= -(n:Int):=⟨v.natAbs,by omega⟩
  have e1:=I3 n (by omega) (by omega);go_enter func155,ntmps155
  go_wp2_with fail
  obtain ⟨W,hW,x0,Z0,A0⟩:=aH w 117 [.bool false,.slice none 0 0];rw [←hW];clear hW;obtain ⟨aK,bf,bN,bO⟩:=aG A0 (Ext.refl _);have z0:=(A0.ext (Ext.refl _)).lt;refine (fC _ _ (by omega)).mono ?_;rintro e w1 ⟨a1,c1,rfl,hr1,pA,hx1⟩;obtain ⟨aK,bf,bN,bO⟩:=aG A0 hx1;have z0:=(A0.ext hx1).lt;go_wp2_with fail
  refine (vn _ _ _ _ _ (by have:=hr1.le;omega)).mono ?_;rintro e w2 ⟨rfl,hx2⟩;obtain ⟨aK,bf,bN,bO⟩:=aG A0 (hx1.trans hx2);have z0:=(A0.ext (hx1.trans hx2)).lt;have fin:=bw.lA (s:=true) hr1 pA hx1 ⟨rfl,hx2⟩;go_wp2
  exact bodyPost_ret (by simp [results,results155,go_sem,aK,bf]) rfl (bw.bF fin x0 (Touch.two _ (Nat.le_refl _) (by rw [Z0.o];omega) _ _))
 ·obtain ⟨n,rfl⟩: ∃n:Nat,v=(n:Int):=⟨v.natAbs,by omega⟩
  have e1:IntKind.u64.wrap (n:Int)=(n:Int):=by rw [IntKind.wrap_u64];omega
  go_enter func155,ntmps155
  go_wp2_with fail
  obtain ⟨W,hW,x0,Z0,A0⟩:=aH w 117 [.bool false,.slice none 0 0];rw [←hW];clear hW;obtain ⟨aK,bf,bN,bO⟩:=aG A0 (Ext.refl _);have z0:=(A0.ext (Ext.refl _)).lt;refine (fC _ _ (by omega)).mono ?_;rintro e w1 ⟨a1,c1,rfl,hr1,pA,hx1⟩;obtain ⟨aK,bf,bN,bO⟩:=aG A0 hx1;have z0:=(A0.ext hx1).lt;go_wp2_with fail
  refine (vn _ _ _ _ _ (by have:=hr1.le;omega)).mono ?_;rintro e w2 ⟨rfl,hx2⟩;obtain ⟨aK,bf,bN,bO⟩:=aG A0 (hx1.trans hx2);have z0:=(A0.ext (hx1.trans hx2)).lt;have fin:=bw.lA (s:=false) hr1 pA hx1 ⟨rfl,hx2⟩;go_wp2
  exact bodyPost_ret (by simp [results,results155,go_sem,aK,bf]) rfl (bw.bF fin x0 (Touch.two _ (Nat.le_refl _) (by rw [Z0.o];omega) _ _))
theorem I4 (w:World) (s:Bool) (a:Option Addr) (k c n:Nat) (h:Raw w a k c n):
 Calls prog 185 #[.agg #[.bool s,.slice a k c]] w fun e w'=>e= .returned (.int .i64 (bA s n).sign)∧Ext w w':=by
 have hb:=aH w 117 [.bool s,.slice a k c];by_cases h0:n=0
 ·subst h0
  have hc:kt 0 0=0:=rfl;go_enter func185,ntmps185
  go_wp2_with fail
  refine (jA _ _ _ _ _ _ _ _ _ (h.ext ((Ext.refl _).alloc _)) (Raw.nil _)).mono ?_;rintro e w1 ⟨rfl,hq⟩;rw [hc];go_wp2
  go_ret;exact ⟨by rw [vk];rfl,(((Ext.refl _).alloc _).trans hq.ext)⟩
 ·have hc:kt n 0=1:=by unfold kt;rw [if_neg (by omega),if_neg h0]
  have HC:=ae hc;clear hc
  cases s
  ·have e1:(bA false n).sign=1:=by rw [eX,Int.sign_eq_one_of_pos (by omega)]
   have E1:=ae e1;clear e1
   go_enter func185,ntmps185
   go_wp2_with fail
   refine (jA _ _ _ _ _ _ _ _ _ (h.ext ((Ext.refl _).alloc _)) (Raw.nil _)).mono ?_;rintro e w1 ⟨rfl,hq⟩;rw [HC.o];have k0:=aG (aJ.alloc w 117 [.bool false,.slice a k c]) hq.ext;go_wp2
   go_ret;exact ⟨cS E1.o.symm,(((Ext.refl _).alloc _).trans hq.ext)⟩
  ·have e1:(bA true n).sign= -1:=by rw [jB,Int.sign_eq_neg_one_of_neg (by omega)]
   have E1:=ae e1;clear e1
   go_enter func185,ntmps185
   go_wp2_with fail
   refine (jA _ _ _ _ _ _ _ _ _ (h.ext ((Ext.refl _).alloc _)) (Raw.nil _)).mono ?_;rintro e w1 ⟨rfl,hq⟩;rw [HC.o];have k0:=aG (aJ.alloc w 117 [.bool true,.slice a k c]) hq.ext;go_wp2
   go_ret;exact ⟨cS E1.o.symm,(((Ext.refl _).alloc _).trans hq.ext)⟩
end Go.Proofs.YtkpngkdgphojlaaGreat
