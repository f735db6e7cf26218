/- Texts of the proof. -/
import Derived.Test.YtkpngkdgphojlaaGreatCf2
set_option linter.all false
set_option maxHeartbeats 2000000
set_option maxRecDepth 100000
namespace Go.Proofs.YtkpngkdgphojlaaGreat
open Go.Proofs.Tryz
theorem eA (x:Nat):val [x]=x:=by simp [val]
theorem mg (n:Nat):val (List.replicate n 0)=0:=by
 induction n with
 |zero=>rfl
 |succ n ih=>simp [List.replicate_succ,val,ih]
theorem bN {l:List Nat} (h:Small l) (i:Nat):limb l i<4294967296:=by
 unfold limb;by_cases hi:i<l.length
 ·rw [List.getElem?_eq_getElem hi];exact h _ (List.getElem_mem hi)
 ·rw [List.getElem?_eq_none (by omega)];simp
theorem tx {l:List Nat} {k:Nat} (h:k<l.length):l.take (k+1)=l.take k++ [limb l k]:=by
 rw [List.take_succ_eq_append_getElem h];simp [limb,h]
theorem bR {l:List Nat} {k:Nat} (h:k<l.length):val (l.take (k+1))=val (l.take k)+4294967296^k*limb l k:=by
 rw [tx h,cI,eA,List.length_take,Nat.min_eq_left (by omega)]
theorem eF {l:List Nat} {k:Nat} (h:k<l.length):val (l.drop k)=limb l k+4294967296*val (l.drop (k+1)):=by
 rw [List.drop_eq_getElem_cons h];simp [val,limb,h]
theorem tA {l m:List Nat} {i:Nat} (h:i<l.length):limb (l++m) i=limb l i:=by
 unfold limb;rw [List.getElem?_append_left h]
theorem Pe {n k:Nat}:k<len n↔4294967296^k≤n:=by
 have:= @dZ n k;omega
theorem ko {n:Nat}:len n=0↔n=0:=by
 have:= @dZ n 0;simp at this;omega
theorem gj {n:Nat}:0<len n↔0<n:=by
 have:= @ko n;omega
theorem Ea {n:Nat}:len n≤1↔n<4294967296:=by have:= @dZ n 1;simpa using this
theorem fC {n:Nat}:len n≤2↔n<18446744073709551616:=by have:= @dZ n 2;simpa using this
theorem FA {l:List Nat} (h:Small l) (h1:0<l.length) (h2:limb l (l.length-1)≠0):len (val l)=l.length:=by
 have h3:=pS h;have h4:=bR (l:=l) (k:=l.length-1) (by omega);rw [show l.length-1+1=l.length from by omega,List.take_length]at h4
 have h5:4294967296^(l.length-1)≤val l:=by
  rw [h4];have:4294967296^(l.length-1)*1≤4294967296^(l.length-1)*limb l (l.length-1):=Nat.mul_le_mul_left _ (by omega);omega
 have:=Pe.2 h5;omega
theorem val_inj: ∀{l m:List Nat},Small l→Small m→l.length=m.length→val l=val m→l=m
 | [],[],_,_,_,_=>rfl
 |x::xs,y::ys,hl,hm,h,hv=>by
  have a:=hl x (List.mem_cons_self ..);have b:=hm y (List.mem_cons_self ..);simp only [val]at hv;simp only [List.length_cons]at h;have e:val xs=val ys:=by omega
  have e':x=y:=by omega
  rw [val_inj hl.tail hm.tail (by omega) e,e']
theorem lU {l:List Nat} (h:Small l) (h1:0<l.length) (h2:l.length=len (val l)):limb l (l.length-1)≠0:=by
 intro h3;have h4:=bR (l:=l) (k:=l.length-1) (by omega);rw [show l.length-1+1=l.length from by omega,List.take_length,h3]at h4;have h5:=jh (h.take (l.length-1));rw [List.length_take,Nat.min_eq_left (by omega)]at h5;have h6:len (val l)≤l.length-1:=dZ.2 (by omega);omega
theorem iE (l:List Nat) (k:Nat) (h:k<l.length):val l=val (l.take k)+4294967296^k*(limb l k+4294967296*val (l.drop (k+1))):=by
 rw [←eF h];exact jR l k (by omega)
theorem pg {l m:List Nat} (hl:Small l) {k:Nat} (h1:k<l.length) (h2:k<m.length) (hd:val (l.drop (k+1))=val (m.drop (k+1))) (hlt:limb l k<limb m k):val l<val m:=by
 rw [iE l k h1,iE m k h2,hd];have h3:=jh (hl.take k);rw [List.length_take,Nat.min_eq_left (by omega)]at h3;generalize val (m.drop (k+1))=d at*
 have h4:4294967296^k*(limb l k+4294967296*d)+4294967296^k≤4294967296^k*(limb m k+4294967296*d):=by
  rw [←Nat.mul_succ];exact Nat.mul_le_mul_left _ (by omega)
 omega
theorem zX {l:List Nat} {k:Nat} (h:k<l.length) (x:Nat):val (l.set k x)+4294967296^k*limb l k=val l+4294967296^k*x:=by
 have h1:=iE l k h;have h2:=iE (l.set k x) k (by simpa using h);rw [List.take_set_of_le (by omega),List.drop_set_of_lt (by omega)]at h2;have h3:limb (l.set k x) k=x:=by simp [limb,h]
 rw [h3]at h2;rw [Nat.mul_add]at h1 h2;omega
theorem tU {l:List Nat} {k t:Nat} (h:k≠t) (x:Nat):limb (l.set k x) t=limb l t:=by simp [limb,h]
theorem Ca {l:List Nat} {k:Nat} (h:k<l.length) (x:Nat):limb (l.set k x) k=x:=by simp [limb,h]
theorem oF (n i:Nat):limb (List.replicate n 0) i=0:=by
 unfold limb;by_cases h:i<n<;>simp [h]
theorem fF {l:List Nat} {i:Nat} (h:l.length≤i):limb l i=0:=by unfold limb;rw [List.getElem?_eq_none h];rfl
theorem mO {L M r:List Nat} {i q x y z q':Nat} (h1:i<L.length) (hr:r.length=i) (hv:val r+val (M.take i)=val (L.take i)+4294967296^i*q) (hM:i<M.length∨M.length≤i)
 (hx:limb L i=x) (hy:limb M i=y) (hz:z+y+q=x+4294967296*q'):
 val (r++ [z])+val (M.take (i+1))=val (L.take (i+1))+4294967296^(i+1)*q':=by
 rw [cI,eA,hr,bR h1,hx]
 have e:val (M.take (i+1))=val (M.take i)+4294967296^i*y:=by
  rcases hM with h|h
  ·rw [←hy];exact bR h
  ·rw [List.take_of_length_le (by omega),List.take_of_length_le (by omega),←hy,fF h];simp
 rw [e,Nat.pow_succ,Nat.mul_assoc];generalize 4294967296^i=p at*
 have e2:p*z+p*y+p*q=p*x+p*(4294967296*q'):=by
  rw [←Nat.mul_add,←Nat.mul_add,←Nat.mul_add,hz]
 omega
theorem rE {l:List Nat} {i:Nat} (h:i<l.length) (x:Nat):val ((l.set i x).drop i)=x+4294967296*val (l.drop (i+1)):=by
 rw [eF (by simpa using h),Ca h,List.drop_set_of_lt (by omega)]
theorem JZ {V d r x R:Nat} (h0:0<d) (hr:r<d) (hx:x<4294967296) (hv:V*d+r=R):
 ((x+4294967296*r)/d+4294967296*V)*d+(x+4294967296*r) % d=x+4294967296*R∧(x+4294967296*r)/d<4294967296:=by
 constructor
 ·have:=Nat.div_add_mod (x+4294967296*r) d
  rw [Nat.add_mul,Nat.mul_assoc,Nat.mul_comm _ d,←hv];omega
 ·rw [Nat.div_lt_iff_lt_mul h0]
  have:4294967296*(r+1)≤4294967296*d:=Nat.mul_le_mul_left _ hr;omega
open Go.RowKit Go.Sort
theorem cC (w:World) (a:Option Addr) (k c n:Nat) (h:Raw w a k c n):
 Calls prog 193 #[.slice a k c] w fun e w'=>e= .returned (.slice a (len n) c)∧w=w':=by
 obtain ⟨l,rfl,rfl,h⟩:=h;have h1:=h.le;have h2:=h.cap;go_enter func193,ntmps193
 go_wp2
 go_loop [3] (fun i=> ∃k:Nat,k≤l.length∧val (l.take k)=val l∧i= .int .i64 k) (fun i=>(intOf i).toNat)
 case atStart=>exact ⟨_,Nat.le_refl _,by rw [List.take_length],rfl⟩
 case round=>
  obtain ⟨k,hk,hv,rfl⟩:=hrel;have HV:=ae hv;clear hv
  by_cases h0:0<k
  ·obtain ⟨b,o,rfl⟩:=h.at (by omega)
   have hc:=h.cellAt (k-1) (by omega);by_cases hz:limb l (k-1)=0
   ·have hz':((limb l (k-1):Nat):Int)=0:=by omega
    rw [hz']at hc;have HZ:=ae hz;clear hz hz'
    go_wp2
    go_round
    case rel=>
     refine ⟨k-1,by omega,?_,by go_num⟩;have:=bR (l:=l) (k:=k-1) (by omega);rw [HZ.o,show k-1+1=k from by omega,HV.o]at this;rw [this];simp
    case measure=>simp [intOf];omega
   ·have hz':(((limb l (k-1):Nat):Int)==0)=false:=by rw [beq_eq_false_iff_ne];omega
    have HZ:=ae hz;clear hz
    go_wp2
    go_ret
    have e:len (val l)=k:=by
     rw [←HV.o];have:=FA (h.small.take k) (by rw [List.length_take];omega) (by rw [List.length_take,Nat.min_eq_left hk,sw (by omega)];exact HZ.o);rw [this,List.length_take,Nat.min_eq_left hk]
    exact ⟨xQ e.symm,rfl⟩
  ·go_wp2
   go_ret
   have e:len (val l)=k:=by
    rw [←HV.o,show k=0 from by omega];rfl
   exact ⟨xQ e.symm,rfl⟩
theorem oG (w:World) (a:Option Addr) (k c n:Nat) (h:Raw w a k c n) (hk:k≤2):
 Calls prog 194 #[.slice a k c] w fun e w'=>e= .returned (.int .u64 (n:Nat))∧w=w':=by
 obtain ⟨l,rfl,rfl,h⟩:=h;have hs:=h.small;match l,hk,h,hs with
 | [],_,h,_=>
   go_enter func194,ntmps194
   go_wp2
   refine wp_loop_rounds 1 ?_;rw [rounds_succ]
   go_wp2
   go_ret;exact ⟨rfl,rfl⟩
 | [x],_,h,hs=>
   obtain ⟨b,o,rfl⟩:=h.at (by simp);have hc:=h.cellAt 0 (by simp);have hx:=hs x (by simp);simp [limb]at hc;go_enter func194,ntmps194
   go_wp2
   refine wp_loop_rounds 2 ?_;rw [rounds_succ]
   go_wp2
   rw [rounds_succ];go_wp2
   go_ret;exact ⟨cd (by simp [val];exact or_zero x (by omega)),rfl⟩
 | [x,y],_,h,hs=>
   obtain ⟨b,o,rfl⟩:=h.at (by simp);have hc:=h.cellAt 0 (by simp);have hc1:=h.cellAt 1 (by simp);have hx:=hs x (by simp);have hy:=hs y (by simp);simp [limb]at hc hc1;go_enter func194,ntmps194
   go_wp2
   refine wp_loop_rounds 3 ?_;rw [rounds_succ]
   go_wp2
   rw [rounds_succ];go_wp2
   rw [rounds_succ];go_wp2
   go_ret;exact ⟨cd (by rw [or_zero x (by omega),ML x y hx hy];simp [val]),rfl⟩
theorem cH (w:World) (a:Option Addr) (k c n:Nat) (h:Raw w a k c n) (hn:n<18446744073709551616):
 Calls prog 165 #[.slice a k c] w fun e w'=>e= .returned (.tuple #[.int .u64 (n:Nat),.bool true])∧w=w':=by
 have h2:=fC.2 hn;have hc:=h.cut;go_enter func165,ntmps165
 go_wp2_with (first|(go_at_call 193;refine (cC _ _ _ _ _ h).mono ?_;rintro e w' ⟨rfl,rfl⟩)|(go_at_call 194;refine (oG _ _ _ _ _ hc h2).mono ?_;rintro e w' ⟨rfl,rfl⟩))
 go_ret2
 exact ⟨rfl,rfl⟩
theorem jY (w:World) (a:Option Addr) (k c n:Nat) (h:Raw w a k c n) (hn:18446744073709551616≤n):
 Calls prog 165 #[.slice a k c] w fun e w'=>e= .returned (.tuple #[.int .u64 0,.bool false])∧w=w':=by
 have h2:2<len n:=by have:= @fC n;omega
 have hc:=h.cut;go_enter func165,ntmps165
 go_wp2_with (first|(go_at_call 193;refine (cC _ _ _ _ _ h).mono ?_;rintro e w' ⟨rfl,rfl⟩))
 go_ret2
 exact ⟨rfl,rfl⟩
theorem cU (w:World) (n:Nat) (hn:n<18446744073709551616):
 Calls prog 184 #[.int .u64 (n:Nat)] w (iZ n w):=by
 have hr:Raw (w.alloc (Obj.cells #[.int .u32 ((n:Int) % 4294967296),.int .u32 ((n:Int)/4294967296)] 185)) (some ⟨w.heap.size,0,none⟩) 2 2 n:=by
  have ha:=aQ.alloc w 185 (cV [n % 4294967296,n/4294967296]);exact ⟨_,rfl,by simp [val];omega,ha.limbs (Small.append (l:= [_]) (m:= [_]) (Small.one (by omega)) (Small.one (by omega))) (by simp)⟩
 go_enter func184,ntmps184
 go_wp2_with fail
 refine (cC _ _ _ _ _ hr).mono ?_;rintro e w' ⟨rfl,rfl⟩;go_wp2
 go_ret;exact ⟨_,_,rfl,hr.cut,Fr.some (Nat.le_refl _),(Ext.refl _).alloc _⟩
theorem dJ (w:World) (a b:Option Addr) (k k' c c' n m:Nat) (ha:Raw w a k c n) (hb:Raw w b k' c' m):
 Calls prog 187 #[.slice a k c,.slice b k' c'] w fun e w'=>e= .returned (.int .i64 (fc n m))∧Quiet w w':=by
 have ha':=ha.cut;have hb':=hb.cut;have la:=ha'.le;have lb:=hb'.le;by_cases hne:len n=len m
 ·obtain ⟨l,hl,hv,hA⟩:=ha'
  obtain ⟨l',hl',hv',hB⟩:=hb';have s1:=hA.small;have s2:=hB.small;have Eb:(((len n:Nat):Int) !=((len m:Nat):Int))=false:=by simp [hne]
  rw [←hne]at hl' lb Eb;have HL:=ae hl;have kn:=ae hl';have HV:=ae hv;have Cb:=ae hv';have HN:=ae hne
  clear hl hl' hv hv' hne;go_enter func187,ntmps187
  go_wp2_with fail
  refine (cC _ _ _ _ _ ha).mono ?_;rintro e w' ⟨rfl,rfl⟩;go_wp2_with fail
  refine (cC _ _ _ _ _ hb).mono ?_;rintro e w' ⟨rfl,rfl⟩;rw [←HN.o];go_wp2
  go_loopw [5] (fun i wr=> ∃j:Nat,j≤len n∧l.drop j=l'.drop j∧i= .int .i64 ((j:Int)-1)∧Quiet w wr) (fun i _=>(intOf i+1).toNat)
  case atStart=>exact ⟨len n,Nat.le_refl _,by rw [List.drop_of_length_le (by rw [HL.o];exact Nat.le_refl _),List.drop_of_length_le (by rw [kn.o];exact Nat.le_refl _)],rfl,Quiet.refl _⟩
  case round=>
   obtain ⟨j,hj,hd,rfl,hq⟩:=hrel;have HD:=ae hd;clear hd
   by_cases h0:0<j
   ·obtain ⟨i,rfl⟩: ∃i,j=i+1:=⟨j-1,by omega⟩
    rw [show(((i+1:Nat):Int)-1)=(i:Int)from by omega];obtain ⟨p,o,rfl⟩:=hA.at (by rw [HL.o];omega);obtain ⟨p',o',rfl⟩:=hB.at (by rw [kn.o];omega);have hc:=(hA.ext hq.ext).cellAt i (by rw [HL.o];omega);have hc':=(hB.ext hq.ext).cellAt i (by rw [kn.o];omega);have hx:=bN s1 i;have hy:=bN s2 i;have g1:(i:Int)<(len n:Int):=by omega
    have g2:(0:Int)≤(i:Int):=by omega
    by_cases c1:limb l i<limb l' i
    ·have d1:decide (((limb l i:Nat):Int)<((limb l' i:Nat):Int))=true:=by simp;omega
     go_wp2
     go_quiet (fail)
     go_wp2
     go_ret;refine ⟨cd ?_,hq.drewN _⟩;have:=pg s1 (k:=i) (by rw [HL.o];omega) (by rw [kn.o];omega) (by rw [HD.o]) c1;rw [HV.o,Cb.o]at this;unfold fc;rw [if_pos this]
    ·by_cases c2:limb l' i<limb l i
     ·have d1:decide (((limb l i:Nat):Int)<((limb l' i:Nat):Int))=false:=by simp;omega
      have d2:decide (((limb l' i:Nat):Int)<((limb l i:Nat):Int))=true:=by simp;omega
      go_wp2
      go_quiet (fail)
      go_wp2
      go_quiet (fail)
      go_wp2
      go_ret;refine ⟨cd ?_,(hq.drewN _).drewN _⟩;have:=pg s2 (k:=i) (by rw [kn.o];omega) (by rw [HL.o];omega) (by rw [HD.o]) c2;rw [HV.o,Cb.o]at this;unfold fc;rw [if_neg (by omega),if_neg (by omega)]
     ·have d1:decide (((limb l i:Nat):Int)<((limb l' i:Nat):Int))=false:=by simp;omega
      have d2:decide (((limb l' i:Nat):Int)<((limb l i:Nat):Int))=false:=by simp;omega
      go_wp2
      go_quiet (fail)
      go_wp2
      go_quiet (fail)
      go_wp2
      go_roundw
      case rel=>
           refine ⟨i,by omega,?_,rfl,hq.drewN _⟩;have e1:limb l i=limb l' i:=by omega
           have e2:i<l.length:=by rw [HL.o];omega
           have e3:i<l'.length:=by rw [kn.o];omega
           rw [List.drop_eq_getElem_cons e2,List.drop_eq_getElem_cons e3,HD.o];simp only [limb,List.getElem?_eq_getElem e2,List.getElem?_eq_getElem e3,Option.getD_some]at e1;rw [e1]
      case measure=>simp [intOf]
   ·obtain rfl:j=0:=by omega
    go_wp2
    go_ret;refine ⟨cd ?_,hq⟩;have:n=m:=by rw [←HV.o,←Cb.o];have:=HD.o;simp at this;rw [this]
    unfold fc;rw [if_neg (by omega),if_pos this]
 ·have Eb:(((len n:Nat):Int) !=((len m:Nat):Int))=true:=by simp;omega
  by_cases hlt:len n<len m
  ·go_enter func187,ntmps187
   go_wp2_with fail
   refine (cC _ _ _ _ _ ha).mono ?_;rintro e w' ⟨rfl,rfl⟩;go_wp2_with fail
   refine (cC _ _ _ _ _ hb).mono ?_;rintro e w' ⟨rfl,rfl⟩;go_wp2
   go_ret;refine ⟨cd ?_,Quiet.refl _⟩
   have:n<m:=by
    apply Nat.lt_of_not_le;intro h;have:=cM h;omega
   unfold fc;rw [if_pos this]
  ·go_enter func187,ntmps187
   go_wp2_with fail
   refine (cC _ _ _ _ _ ha).mono ?_;rintro e w' ⟨rfl,rfl⟩;go_wp2_with fail
   refine (cC _ _ _ _ _ hb).mono ?_;rintro e w' ⟨rfl,rfl⟩;go_wp2
   go_ret;refine ⟨cd ?_,Quiet.refl _⟩
   have:m<n:=by
    apply Nat.lt_of_not_le;intro h;have:=cM h;omega
   unfold fc;rw [if_neg (by omega),if_neg (by omega)]
theorem Tryz.info_u32:(Tryz.prog.info? 185).map (fun i=>(i.zero,i.size,i.bytes))=some (some (.int .u32 0),1,4):=by kernel_rfl
theorem Tryz.size_u32:(Tryz.prog.info? 185).map (·.size)=some 1:=by kernel_rfl
theorem oH (w:World) (a:Option Addr) (k c n:Nat) (h:Raw w a k c n):
 Calls prog 191 #[.slice a k c] w (iZ n w):=by
 have hc:=h.cut;have hl:=hc.le;obtain ⟨l,wM,hl2,hL⟩:=hc;have H1:=ae wM;have H2:=ae hl2;clear wM hl2
 go_enter func191,ntmps191
 go_wp2_with (first
  |(go_at_call 193;refine (cC _ _ _ _ _ h).mono ?_;rintro e w' ⟨rfl,rfl⟩)
  |(at_make;refine bO _ rfl _ _ 115 rfl 185 (.int .u32 0) 4 underlying115 Tryz.info_u32 rfl _ _ (len n) rfl rfl rfl rfl (by omega) (by omega) ?_;intro w1 gH hx1 hz1)
  |(refine ud (o:=⟨some 11,_,_,_,_,_⟩) rfl (.tmp 9) (.tmp 10) 115 115 rfl 185 underlying115 Tryz.size_u32 _ _ _ _ _ _ rfl rfl w.heap.size 0 _ 185 gH.o (cV l) ?c1 ?c2 ?c3 (qA l) ?_;rotate_right;intro w2 hw2 hx2 hz2))
 case c1=>rw [ig,H1.o];exact (Nat.min_self _).symm
 case c2=>intro h0;rw [ig]at h0;exact (hL.ext hx1).src h0
 case c3=>rw [ig,H1.o];simp
 go_ret
 have e:splice (List.replicate (len n) (Value.int .u32 0)) 0 (cV l)=cV l:=by
  unfold splice;rw [ig,H1.o];simp
 have hA:aQ w2 w.heap.size 185 (cV l):=by have:=hw2.o;rwa [e]at this
 have hR:Raw w2 (some ⟨w.heap.size,0,none⟩) (len n) (len n) n:=by
  have:=hA.limbs hL.small (by rw [H1.o];omega);rw [H1.o]at this;exact ⟨l,H1.o,H2.o,this⟩
 exact ⟨_,_,rfl,hR,Fr.some (Nat.le_refl _),hx2.o w hx1 (Nat.le_refl _)⟩
theorem oI {L M r:List Nat} {i cy:Nat} (h1:i<L.length) (hr:r.length=i) (hv:val r+4294967296^i*cy=val (L.take i)+val (M.take i)) (hM:i<M.length∨M.length≤i):
 val (r++ [(cy+limb L i+limb M i) % 4294967296])+4294967296^(i+1)*((cy+limb L i+limb M i)/4294967296)=val (L.take (i+1))+val (M.take (i+1)):=by
 rw [cI,eA,hr,bR h1]
 have e:val (M.take (i+1))=val (M.take i)+4294967296^i*limb M i:=by
  rcases hM with h|h
  ·exact bR h
  ·rw [List.take_of_length_le (by omega),List.take_of_length_le (by omega)];simp [limb,List.getElem?_eq_none h]
 rw [e,Nat.pow_succ,Nat.mul_assoc];generalize 4294967296^i=p at*
 have e2:p*((cy+limb L i+limb M i) % 4294967296)+p*(4294967296*((cy+limb L i+limb M i)/4294967296))=p*cy+p*limb L i+p*limb M i:=by
  rw [←Nat.mul_add,Nat.mod_add_div,Nat.mul_add,Nat.mul_add]
 omega
theorem Ec (w:World) (a b:Option Addr) (k k' c c' n m:Nat) (ha:Raw w a k c n) (hb:Raw w b k' c' m) (hle:len m≤len n) (hsz:len n<1000000000):
 Calls prog 217 #[.slice a k c,.slice b k' c'] w (iZ (n+m) w):=by
 have ha':=ha.cut;have hb':=hb.cut;have la:=ha'.le;have lb:=hb'.le;obtain ⟨l,hl,hv,hA⟩:=ha';obtain ⟨l',hl',hv',hB⟩:=hb';have s1:=hA.small;have s2:=hB.small;have HL:=ae hl;have kn:=ae hl';have HV:=ae hv;have Cb:=ae hv'
 clear hl hl' hv hv';have hlt: ¬len n<len m:=by omega
 go_enter func217,ntmps217
 go_wp2_with fail
 refine (cC _ _ _ _ _ ha).mono ?_;rintro e w' ⟨rfl,rfl⟩;go_wp2_with fail
 refine (cC _ _ _ _ _ hb).mono ?_;rintro e w' ⟨rfl,rfl⟩;go_wp2_with (at_make;refine bO _ rfl _ _ 115 rfl 185 (.int .u32 0) 4 underlying115 Tryz.info_u32 rfl _ _ (len n+1) rfl rfl (by go_num) (by go_num) (by omega) (by omega) ?_;intro w1 gH hx1 hz1)
 go_loopw [6,26] (fun cy i wr=> ∃(j q:Nat) (r:List Nat),j≤len n∧Hid (r.length=j)∧Small r∧q≤1∧Hid (val r+4294967296^j*q=val (l.take j)+val (l'.take j))∧Hid (aQ wr w.heap.size 185 (cV (r++List.replicate (len n+1-j) 0)))∧Ext w wr∧cy= .int .u64 q∧i= .int .i64 j) (fun _ i _=>len n-(intOf i).toNat)
 case atStart=>exact ⟨0,0,[],Nat.zero_le _,rfl,Small.nil,Nat.zero_le _,rfl,by have:=gH.o;rw [cT]at this;exact this,hx1,rfl,rfl⟩
 case round=>
  obtain ⟨j,q,r,hj,hr,hs,hq,hval,di,dG,rfl,rfl⟩:=hrel;by_cases h0:j<len n
  ·obtain ⟨p,o,rfl⟩:=hA.at (by rw [HL.o];omega)
   have hc:=(hA.ext dG).cellAt j (by rw [HL.o];omega);have hx:=bN s1 j
   have hst:wr.cell? ⟨w.heap.size,j,none⟩=some (.int .u32 0):=by
    rw [di.o.cell,et _ _ (by simp [hr.o];omega)];simp [limb,hr.o,show 0<len n+1-j from by omega]
   have rF:=di.o.frozen j
   have jF: ∀x:Nat,x<4294967296→aQ (wr.setCell ⟨w.heap.size,j,none⟩ (.int .u32 (x:Nat))) w.heap.size 185 (cV ((r++ [x])++List.replicate (len n+1-(j+1)) 0)):=by
    intro x _;have:=di.o.set j (.int .u32 (x:Nat));rw [fo,List.set_append_right _ _ (by rw [hr.o];exact Nat.le_refl _),hr.o,Nat.sub_self,show len n+1-j=(len n+1-(j+1))+1 from by omega,List.replicate_succ,List.set_cons_zero]at this;rw [List.append_assoc];exact this
   have HN:=ae jF;clear jF
   by_cases h1:j<len m
   ·obtain ⟨p',o',rfl⟩:=hB.at (by rw [kn.o];omega)
    have hc':=(hB.ext dG).cellAt j (by rw [kn.o];omega);have hy:=bN s2 j;go_wp2
    go_roundw
    case rel=>
     have gM:=oI (L:=l) (M:=l') (cy:=q) (i:=j) (by rw [HL.o];omega) hr.o hval.o (by rw [kn.o];omega);refine ⟨j+1,(q+limb l j+limb l' j)/4294967296,r++ [(q+limb l j+limb l' j) % 4294967296],by omega,(show _=_ by simp [hr.o]),hs.append (Small.one (Nat.mod_lt _ (by decide))),by omega,gM,HN.o _ (Nat.mod_lt _ (by decide)),dG.setCell (Nat.le_refl _) _,?_,?_⟩<;>go_num
    case measure=>simp [intOf];omega
   ·have e1:limb l' j=0:=by unfold limb;rw [List.getElem?_eq_none (by rw [kn.o];omega)];rfl
    have E1:=ae e1;clear e1
    go_wp2
    go_roundw
    case rel=>
     have gM:=oI (L:=l) (M:=l') (cy:=q) (i:=j) (by rw [HL.o];omega) hr.o hval.o (by rw [kn.o];omega);rw [E1.o,Nat.add_zero]at gM;refine ⟨j+1,(q+limb l j)/4294967296,r++ [(q+limb l j) % 4294967296],by omega,(show _=_ by simp [hr.o]),hs.append (Small.one (Nat.mod_lt _ (by decide))),by omega,gM,HN.o _ (Nat.mod_lt _ (by decide)),dG.setCell (Nat.le_refl _) _,?_,?_⟩<;>go_num
    case measure=>simp [intOf];omega
  ·obtain rfl:j=len n:=by omega
   have hst:wr.cell? ⟨w.heap.size,len n,none⟩=some (.int .u32 0):=by
    rw [di.o.cell,et _ _ (by simp [hr.o])];simp [limb,hr.o]
   have rF:=di.o.frozen (len n)
   have oJ:Raw (wr.setCell ⟨w.heap.size,len n,none⟩ (.int .u32 (q:Nat))) (some ⟨w.heap.size,0,none⟩) (len n+1) (len n+1) (n+m):=by
    have:=di.o.set (len n) (.int .u32 (q:Nat));rw [fo,List.set_append_right _ _ (by rw [hr.o];exact Nat.le_refl _),hr.o,Nat.sub_self,show len n+1-len n=1 from by omega]at this;simp only [List.replicate_succ,List.replicate_zero,List.set_cons_zero]at this;have h2:=this.limbs (hs.append (Small.one (by omega))) (by simp [hr.o];omega);refine ⟨r++ [q],by simp [hr.o],?_,by simpa [hr.o]using h2⟩;rw [cI,eA,hr.o,hval.o,List.take_of_length_le (by rw [HL.o];exact Nat.le_refl _),List.take_of_length_le (by rw [kn.o];omega),HV.o,Cb.o]
   have HR:=ae oJ;clear oJ
   go_wp2_with (go_at_call 193;refine (cC _ _ _ _ _ HR.o).mono ?_;rintro e w' ⟨rfl,rfl⟩)
   go_ret;exact ⟨_,_,rfl,HR.o.cut,Fr.some (Nat.le_refl _),dG.setCell (Nat.le_refl _) _⟩
theorem Ed (w:World) (a b:Option Addr) (k k' c c' n m:Nat) (ha:Raw w a k c n) (hb:Raw w b k' c' m) (hle:len m<len n) (hsz:len n<1000000000):
 Calls prog 217 #[.slice b k' c',.slice a k c] w (iZ (n+m) w):=by
 have ha':=ha.cut;have hb':=hb.cut;have la:=ha'.le;have lb:=hb'.le;obtain ⟨l,hl,hv,hA⟩:=ha';obtain ⟨l',hl',hv',hB⟩:=hb';have s1:=hA.small;have s2:=hB.small;have HL:=ae hl;have kn:=ae hl';have HV:=ae hv;have Cb:=ae hv'
 clear hl hl' hv hv';have hlt: ¬len n<len m:=by omega
 go_enter func217,ntmps217
 go_wp2_with fail
 refine (cC _ _ _ _ _ hb).mono ?_;rintro e w' ⟨rfl,rfl⟩;go_wp2_with fail
 refine (cC _ _ _ _ _ ha).mono ?_;rintro e w' ⟨rfl,rfl⟩;go_wp2_with (at_make;refine bO _ rfl _ _ 115 rfl 185 (.int .u32 0) 4 underlying115 Tryz.info_u32 rfl _ _ (len n+1) rfl rfl (by go_num) (by go_num) (by omega) (by omega) ?_;intro w1 gH hx1 hz1)
 go_loopw [6,26] (fun cy i wr=> ∃(j q:Nat) (r:List Nat),j≤len n∧Hid (r.length=j)∧Small r∧q≤1∧Hid (val r+4294967296^j*q=val (l.take j)+val (l'.take j))∧Hid (aQ wr w.heap.size 185 (cV (r++List.replicate (len n+1-j) 0)))∧Ext w wr∧cy= .int .u64 q∧i= .int .i64 j) (fun _ i _=>len n-(intOf i).toNat)
 case atStart=>exact ⟨0,0,[],Nat.zero_le _,rfl,Small.nil,Nat.zero_le _,rfl,by have:=gH.o;rw [cT]at this;exact this,hx1,rfl,rfl⟩
 case round=>
  obtain ⟨j,q,r,hj,hr,hs,hq,hval,di,dG,rfl,rfl⟩:=hrel;by_cases h0:j<len n
  ·obtain ⟨p,o,rfl⟩:=hA.at (by rw [HL.o];omega)
   have hc:=(hA.ext dG).cellAt j (by rw [HL.o];omega);have hx:=bN s1 j
   have hst:wr.cell? ⟨w.heap.size,j,none⟩=some (.int .u32 0):=by
    rw [di.o.cell,et _ _ (by simp [hr.o];omega)];simp [limb,hr.o,show 0<len n+1-j from by omega]
   have rF:=di.o.frozen j
   have jF: ∀x:Nat,x<4294967296→aQ (wr.setCell ⟨w.heap.size,j,none⟩ (.int .u32 (x:Nat))) w.heap.size 185 (cV ((r++ [x])++List.replicate (len n+1-(j+1)) 0)):=by
    intro x _;have:=di.o.set j (.int .u32 (x:Nat));rw [fo,List.set_append_right _ _ (by rw [hr.o];exact Nat.le_refl _),hr.o,Nat.sub_self,show len n+1-j=(len n+1-(j+1))+1 from by omega,List.replicate_succ,List.set_cons_zero]at this;rw [List.append_assoc];exact this
   have HN:=ae jF;clear jF
   by_cases h1:j<len m
   ·obtain ⟨p',o',rfl⟩:=hB.at (by rw [kn.o];omega)
    have hc':=(hB.ext dG).cellAt j (by rw [kn.o];omega);have hy:=bN s2 j;go_wp2
    go_roundw
    case rel=>
     have gM:=oI (L:=l) (M:=l') (cy:=q) (i:=j) (by rw [HL.o];omega) hr.o hval.o (by rw [kn.o];omega);refine ⟨j+1,(q+limb l j+limb l' j)/4294967296,r++ [(q+limb l j+limb l' j) % 4294967296],by omega,(show _=_ by simp [hr.o]),hs.append (Small.one (Nat.mod_lt _ (by decide))),by omega,gM,HN.o _ (Nat.mod_lt _ (by decide)),dG.setCell (Nat.le_refl _) _,?_,?_⟩<;>go_num
    case measure=>simp [intOf];omega
   ·have e1:limb l' j=0:=by unfold limb;rw [List.getElem?_eq_none (by rw [kn.o];omega)];rfl
    have E1:=ae e1;clear e1
    go_wp2
    go_roundw
    case rel=>
     have gM:=oI (L:=l) (M:=l') (cy:=q) (i:=j) (by rw [HL.o];omega) hr.o hval.o (by rw [kn.o];omega);rw [E1.o,Nat.add_zero]at gM;refine ⟨j+1,(q+limb l j)/4294967296,r++ [(q+limb l j) % 4294967296],by omega,(show _=_ by simp [hr.o]),hs.append (Small.one (Nat.mod_lt _ (by decide))),by omega,gM,HN.o _ (Nat.mod_lt _ (by decide)),dG.setCell (Nat.le_refl _) _,?_,?_⟩<;>go_num
    case measure=>simp [intOf];omega
  ·obtain rfl:j=len n:=by omega
   have hst:wr.cell? ⟨w.heap.size,len n,none⟩=some (.int .u32 0):=by
    rw [di.o.cell,et _ _ (by simp [hr.o])];simp [limb,hr.o]
   have rF:=di.o.frozen (len n)
   have oJ:Raw (wr.setCell ⟨w.heap.size,len n,none⟩ (.int .u32 (q:Nat))) (some ⟨w.heap.size,0,none⟩) (len n+1) (len n+1) (n+m):=by
    have:=di.o.set (len n) (.int .u32 (q:Nat));rw [fo,List.set_append_right _ _ (by rw [hr.o];exact Nat.le_refl _),hr.o,Nat.sub_self,show len n+1-len n=1 from by omega]at this;simp only [List.replicate_succ,List.replicate_zero,List.set_cons_zero]at this;have h2:=this.limbs (hs.append (Small.one (by omega))) (by simp [hr.o];omega);refine ⟨r++ [q],by simp [hr.o],?_,by simpa [hr.o]using h2⟩;rw [cI,eA,hr.o,hval.o,List.take_of_length_le (by rw [HL.o];exact Nat.le_refl _),List.take_of_length_le (by rw [kn.o];omega),HV.o,Cb.o]
   have HR:=ae oJ;clear oJ
   go_wp2_with (go_at_call 193;refine (cC _ _ _ _ _ HR.o).mono ?_;rintro e w' ⟨rfl,rfl⟩)
   go_ret;exact ⟨_,_,rfl,HR.o.cut,Fr.some (Nat.le_refl _),dG.setCell (Nat.le_refl _) _⟩
theorem FB (w:World) (a b:Option Addr) (k k' c c' n m:Nat) (ha:Raw w a k c n) (hb:Raw w b k' c' m) (h1:len n<1000000000) (h2:len m<1000000000):
 Calls prog 217 #[.slice a k c,.slice b k' c'] w (iZ (n+m) w):=by
 by_cases h:len m≤len n
 ·exact Ec w a b k k' c c' n m ha hb h h1
 ·rw [Nat.add_comm];exact Ed w b a k' k c' c m n hb ha (by omega) h2
theorem Ee (w:World) (a b:Option Addr) (k k' c c' n m:Nat) (ha:Raw w a k c n) (hb:Raw w b k' c' m) (hlt:n<m):
 Calls prog 218 #[.slice a k c,.slice b k' c'] w fun e w'=>e= .returned (.tuple #[.slice none 0 0,.bool false])∧Quiet w w':=by
 have ha':=ha.cut;have hb':=hb.cut;have ur:fc n m= -1:=by unfold fc;rw [if_pos hlt]
 have HC:=ae ur;clear ur
 go_enter func218,ntmps218
 go_wp2_with fail
 refine (cC _ _ _ _ _ ha).mono ?_;rintro e w' ⟨rfl,rfl⟩;go_wp2_with fail
 refine (cC _ _ _ _ _ hb).mono ?_;rintro e w' ⟨rfl,rfl⟩;go_wp2_with fail
 refine (dJ _ _ _ _ _ _ _ _ _ ha' hb').mono ?_;rintro e w' ⟨rfl,hq⟩;rw [HC.o];go_wp2
 go_ret2
 exact ⟨rfl,hq⟩
theorem J0 (x y q:Nat) (hx:x<4294967296) (hy:y<4294967296) (hq:q≤1): ∃z q':Nat,z+y+q=x+4294967296*q'∧z<4294967296∧q'≤1∧
 IntKind.u64.wrap (IntKind.u64.wrap ((x:Int)-(q:Int))-(y:Int)) % 4294967296=(z:Int)∧IntKind.u64.wrap (IntKind.u64.wrap ((x:Int)-(q:Int))-(y:Int))/9223372036854775808=(q':Int):=by
 rw [IntKind.wrap_u64,IntKind.wrap_u64];by_cases h:q+y≤x
 ·exact ⟨x-y-q,0,by omega,by omega,by omega,by omega,by omega⟩
 ·exact ⟨x+4294967296-y-q,1,by omega,by omega,by omega,by omega,by omega⟩
theorem G4 (x q:Nat) (hx:x<4294967296) (hq:q≤1): ∃z q':Nat,z+0+q=x+4294967296*q'∧z<4294967296∧q'≤1∧
 IntKind.u64.wrap ((x:Int)-(q:Int)) % 4294967296=(z:Int)∧IntKind.u64.wrap ((x:Int)-(q:Int))/9223372036854775808=(q':Int):=by
 rw [IntKind.wrap_u64];by_cases h:q≤x
 ·exact ⟨x-q,0,by omega,by omega,by omega,by omega,by omega⟩
 ·exact ⟨x+4294967296-q,1,by omega,by omega,by omega,by omega,by omega⟩
def vT (n:Nat) (w:World) (e:Ending) (w':World):Prop:= ∃a c,e= .returned (.tuple #[.slice a (len n) c,.bool true])∧Raw w' a (len n) c n∧Fr w.heap.size a∧Ext w w'
theorem uO (w:World) (a b:Option Addr) (k k' c c' n m:Nat) (ha:Raw w a k c n) (hb:Raw w b k' c' m) (hle:m≤n):
 Calls prog 218 #[.slice a k c,.slice b k' c'] w (vT (n-m) w):=by
 have ha':=ha.cut;have hb':=hb.cut;have la:=ha'.le;have lb:=hb'.le;have wO:=cM hle;have ur:0≤fc n m:=by unfold fc;rw [if_neg (by omega)];split<;>decide
 go_enter func218,ntmps218
 go_wp2_with fail
 refine (cC _ _ _ _ _ ha).mono ?_;rintro e w' ⟨rfl,rfl⟩;go_wp2_with fail
 refine (cC _ _ _ _ _ hb).mono ?_;rintro e w' ⟨rfl,rfl⟩;go_wp2_with fail
 refine (dJ _ _ _ _ _ _ _ _ _ ha' hb').mono ?_;rintro e w0 ⟨rfl,rG⟩;obtain ⟨l,hl,hv,hA⟩:=ha'.ext rG.ext;obtain ⟨l',hl',hv',hB⟩:=hb'.ext rG.ext;have s1:=hA.small;have s2:=hB.small;have HL:=ae hl;have kn:=ae hl';have HV:=ae hv;have Cb:=ae hv'
 clear hl hl' hv hv';go_wp2_with (at_make;refine bO _ rfl _ _ 115 rfl 185 (.int .u32 0) 4 underlying115 Tryz.info_u32 rfl _ _ (len n) rfl rfl (by go_num) (by go_num) (by omega) (by omega) ?_;intro w1 gH hx1 hz1)
 go_loopw [7,24] (fun cy i wr=> ∃(j q:Nat) (r:List Nat),j≤len n∧Hid (r.length=j)∧Small r∧q≤1∧Hid (val r+val (l'.take j)=val (l.take j)+4294967296^j*q)∧Hid (aQ wr w0.heap.size 185 (cV (r++List.replicate (len n-j) 0)))∧Ext w0 wr∧cy= .int .u64 q∧i= .int .i64 j) (fun _ i _=>len n-(intOf i).toNat)
 case atStart=>exact ⟨0,0,[],Nat.zero_le _,rfl,Small.nil,Nat.zero_le _,rfl,by have:=gH.o;rw [cT]at this;exact this,hx1,rfl,rfl⟩
 case round=>
  obtain ⟨j,q,r,hj,hr,hs,hq,hval,di,dG,rfl,rfl⟩:=hrel;by_cases h0:j<len n
  ·obtain ⟨p,o,rfl⟩:=hA.at (by rw [HL.o];omega)
   have hc:=(hA.ext dG).cellAt j (by rw [HL.o];omega);have hx:=bN s1 j
   have hst:wr.cell? ⟨w0.heap.size,j,none⟩=some (.int .u32 0):=by
    rw [di.o.cell,et _ _ (by simp [hr.o];omega)];simp [limb,hr.o,show 0<len n-j from by omega]
   have rF:=di.o.frozen j
   have jF: ∀x:Nat,x<4294967296→aQ (wr.setCell ⟨w0.heap.size,j,none⟩ (.int .u32 (x:Nat))) w0.heap.size 185 (cV ((r++ [x])++List.replicate (len n-(j+1)) 0)):=by
    intro x _;have:=di.o.set j (.int .u32 (x:Nat));rw [fo,List.set_append_right _ _ (by rw [hr.o];exact Nat.le_refl _),hr.o,Nat.sub_self,show len n-j=(len n-(j+1))+1 from by omega,List.replicate_succ,List.set_cons_zero]at this;rw [List.append_assoc];exact this
   have HN:=ae jF;clear jF
   by_cases h1:j<len m
   ·obtain ⟨p',o',rfl⟩:=hB.at (by rw [kn.o];omega)
    have hc':=(hB.ext dG).cellAt j (by rw [kn.o];omega);have hy:=bN s2 j;obtain ⟨z,q',e0,hz,hq',e1,e2⟩:=J0 (limb l j) (limb l' j) q hx hy hq;have E0:=ae e0;have E1:=ae e1;have E2:=ae e2;clear e0 e1 e2
    go_wp2
    rw [E1.o,E2.o]
    go_roundw
    case rel=>
     have kL:=mO (L:=l) (M:=l') (q:=q) (i:=j) (by rw [HL.o];omega) hr.o hval.o (by rw [kn.o];omega) rfl rfl E0.o;exact ⟨j+1,q',r++ [z],by omega,(show _=_ by simp [hr.o]),hs.append (Small.one hz),hq',kL,HN.o _ hz,dG.setCell (Nat.le_refl _) _,rfl,by go_num⟩
    case measure=>simp [intOf];omega
   ·have e1:limb l' j=0:=fF (by rw [kn.o];omega)
    have EY:=ae e1;clear e1
    obtain ⟨z,q',e0,hz,hq',e1,e2⟩:=G4 (limb l j) q hx hq;have E0:=ae e0;have E1:=ae e1;have E2:=ae e2;clear e0 e1 e2
    go_wp2
    rw [E1.o,E2.o]
    go_roundw
    case rel=>
     have kL:=mO (L:=l) (M:=l') (q:=q) (i:=j) (by rw [HL.o];omega) hr.o hval.o (by rw [kn.o];omega) rfl EY.o E0.o;exact ⟨j+1,q',r++ [z],by omega,(show _=_ by simp [hr.o]),hs.append (Small.one hz),hq',kL,HN.o _ hz,dG.setCell (Nat.le_refl _) _,rfl,by go_num⟩
    case measure=>simp [intOf];omega
  ·obtain rfl:j=len n:=by omega
   have oJ:Raw wr (some ⟨w0.heap.size,0,none⟩) (len n) (len n) (n-m):=by
    have yo:=hval.o;have t1:l.take (len n)=l:=List.take_of_length_le (by rw [HL.o];exact Nat.le_refl _);have t2:l'.take (len n)=l':=List.take_of_length_le (by rw [kn.o];omega);rw [t1,t2,HV.o,Cb.o]at yo;have hv2:=jh hs;rw [hr.o]at hv2
    have rG:q=0:=by
     apply Nat.eq_zero_of_not_pos;intro h
     have:4294967296^len n*1≤4294967296^len n*q:=Nat.mul_le_mul_left _ h;omega
    subst rG;have h2:=di.o;rw [Nat.sub_self,List.replicate_zero,List.append_nil]at h2;have h3:=h2.limbs hs (by rw [hr.o];omega);rw [hr.o]at h3;exact ⟨r,hr.o,by omega,h3⟩
   have HR:=ae oJ;clear oJ
   go_wp2_with (go_at_call 193;refine (cC _ _ _ _ _ HR.o).mono ?_;rintro e w' ⟨rfl,rfl⟩)
   go_ret2
   exact ⟨_,_,rfl,HR.o.cut,Fr.some rG.ext.size,rG.ext.trans dG⟩
theorem J1 {P' P L':List Nat} {i j q x:Nat} (hj:j<L'.length) (hi:i+j<P'.length) (hv:val P'+4294967296^(i+j)*q=val P+4294967296^i*(x*val (L'.take j))):
 val (P'.set (i+j) ((q+(x*limb L' j+limb P' (i+j))) % 4294967296))+4294967296^(i+(j+1))*((q+(x*limb L' j+limb P' (i+j)))/4294967296)=val P+4294967296^i*(x*val (L'.take (j+1))):=by
 have h1:=zX hi ((q+(x*limb L' j+limb P' (i+j))) % 4294967296);rw [bR hj,show i+(j+1)=i+j+1 from by omega,Nat.pow_succ,Nat.mul_assoc,Nat.mul_add x,Nat.mul_add (4294967296^i)]
 have h2:4294967296^i*(x*(4294967296^j*limb L' j))=4294967296^(i+j)*(x*limb L' j):=by
  rw [Nat.pow_add,Nat.mul_left_comm x,Nat.mul_assoc]
 rw [h2];generalize 4294967296^(i+j)=p at*
 have h3:p*((q+(x*limb L' j+limb P' (i+j))) % 4294967296)+p*(4294967296*((q+(x*limb L' j+limb P' (i+j)))/4294967296))=p*q+(p*(x*limb L' j)+p*limb P' (i+j)):=by
  rw [←Nat.mul_add,Nat.mod_add_div,Nat.mul_add,Nat.mul_add]
 omega
theorem zY (w:World) (a b:Option Addr) (k k' c c' n m:Nat) (ha:Raw w a k c n) (hb:Raw w b k' c' m) (h0:n=0∨m=0):
 Calls prog 188 #[.slice a k c,.slice b k' c'] w (iZ (n*m) w):=by
 by_cases hn:len n=0
 ·have NW:(((len n:Nat):Int)==0)=true:=by simp [hn]
  go_enter func188,ntmps188
  go_wp2_with fail
  refine (cC _ _ _ _ _ ha).mono ?_;rintro e w' ⟨rfl,rfl⟩;go_wp2_with fail
  refine (cC _ _ _ _ _ hb).mono ?_;rintro e w' ⟨rfl,rfl⟩;go_wp2
  go_ret;rw [ko.1 hn,Nat.zero_mul];exact ⟨none,0,rfl,Raw.nil _,Fr.none _,Ext.refl _⟩
 ·have hm:len m=0:=by
   rcases h0 with h|h
   ·exact absurd (ko.2 h) hn
   ·exact ko.2 h
  have NW:(((len n:Nat):Int)==0)=false:=by rw [beq_eq_false_iff_ne];omega
  have Nx:(((len m:Nat):Int)==0)=true:=by simp [hm]
  go_enter func188,ntmps188
  go_wp2_with fail
  refine (cC _ _ _ _ _ ha).mono ?_;rintro e w' ⟨rfl,rfl⟩;go_wp2_with fail
  refine (cC _ _ _ _ _ hb).mono ?_;rintro e w' ⟨rfl,rfl⟩;go_wp2
  go_ret;rw [ko.1 hm,Nat.mul_zero];exact ⟨none,0,rfl,Raw.nil _,Fr.none _,Ext.refl _⟩
theorem Cc (w:World) (a b:Option Addr) (k k' c c' n m:Nat) (ha:Raw w a k c n) (hb:Raw w b k' c' m) (hn:0<n) (hm:0<m) (h1:len n<1000000000) (h2:len m<1000000000):
 Calls prog 188 #[.slice a k c,.slice b k' c'] w (iZ (n*m) w):=by
 have ha':=ha.cut;have hb':=hb.cut;have la:=ha'.le;have lb:=hb'.le;have pn:=gj.2 hn;have pm:=gj.2 hm;have NW:(((len n:Nat):Int)==0)=false:=by rw [beq_eq_false_iff_ne];omega
 have Nx:(((len m:Nat):Int)==0)=false:=by rw [beq_eq_false_iff_ne];omega
 obtain ⟨l,hl,hv,hA⟩:=ha';obtain ⟨l',hl',hv',hB⟩:=hb';obtain ⟨pa,oa,rfl⟩:=hA.at (by rw [hl];omega);obtain ⟨pb,ob,rfl⟩:=hB.at (by rw [hl'];omega);have s1:=hA.small;have s2:=hB.small;have HL:=ae hl;have kn:=ae hl';have HV:=ae hv;have Cb:=ae hv'
 clear hl hl' hv hv';go_enter func188,ntmps188
 go_wp2_with fail
 refine (cC _ _ _ _ _ ha).mono ?_;rintro e w' ⟨rfl,rfl⟩;go_wp2_with fail
 refine (cC _ _ _ _ _ hb).mono ?_;rintro e w' ⟨rfl,rfl⟩;go_wp2_with (at_make;refine bO _ rfl _ _ 115 rfl 185 (.int .u32 0) 4 underlying115 Tryz.info_u32 rfl _ _ (len n+len m) rfl rfl (by go_num) (by go_num) (by omega) (by omega) ?_;intro w1 gH hx1 hz1)
 go_loopw [31] (fun i wr=> ∃(j:Nat) (P:List Nat),j≤len n∧Hid (P.length=len n+len m)∧Small P∧Hid (val P=val (l.take j)*m)∧Hid (∀t,j+len m≤t→limb P t=0)∧Hid (aQ wr w.heap.size 185 (cV P))∧Ext w wr∧i= .int .i64 j) (fun i _=>len n-(intOf i).toNat)
 case atStart=>exact ⟨0,List.replicate (len n+len m) 0,Nat.zero_le _,(show _=_ by simp),Small.replicate _,(show _=_ by simp [val,mg]),(show∀t,_ from fun t _=>oF _ _),by have:=gH.o;rw [cT]at this;exact this,hx1,rfl⟩
 case round=>
  obtain ⟨i,P,hi,hP,hs,hval,hz,di,dG,rfl⟩:=hrel;by_cases h0:i<len n
  ·have hc:=(hA.ext dG).cellAt i (by rw [HL.o];omega)
   have hx:=bN s1 i;by_cases hx0:limb l i=0
   ·have Pf:((limb l i:Nat):Int)=0:=by omega
    rw [Pf]at hc;have HX:=ae hx0;clear hx0 Pf
    go_wp2
    go_roundw
    case rel=>
     refine ⟨i+1,P,by omega,hP,hs,?_,(show∀t,_ from fun t ht=>hz.o t (by omega)),di,dG,by go_num⟩;show _=_;rw [bR (by rw [HL.o];omega),HX.o,hval.o];simp
    case measure=>simp [intOf];omega
   ·have Pf:(((limb l i:Nat):Int)==0)=false:=by rw [beq_eq_false_iff_ne];omega
    have HX:=ae hx0;clear hx0
    go_wp2
    obtain ⟨wo,rfl⟩: ∃wo:World,wo=wr:=⟨_,rfl⟩;go_loopw [8,40] (fun cy jj wr=> ∃(j q:Nat) (P':List Nat),j≤len m∧q<4294967296∧Hid (P'.length=len n+len m)∧Small P'∧Hid (val P'+4294967296^(i+j)*q=val P+4294967296^i*(limb l i*val (l'.take j)))∧Hid (∀t,i+j≤t→limb P' t=limb P t)∧Hid (aQ wr w.heap.size 185 (cV P'))∧Ext w wr∧cy= .int .u64 q∧jj= .int .i64 j) (fun _ jj _=>len m-(intOf jj).toNat)
    case atStart=>exact ⟨0,0,P,Nat.zero_le _,by omega,hP,hs,(show _=_ by simp [val]),(show∀t,_ from fun t _=>rfl),di,dG,rfl,rfl⟩
    case round=>
     obtain ⟨j,q,P',hj,hq,QJ,hs',hval',hz',yE,FC,rfl,rfl⟩:=hrel;by_cases h3:j<len m
     ·have hc':=(hB.ext FC).cellAt j (by rw [kn.o];omega)
      have H8:=(hA.ext FC).cellAt i (by rw [HL.o];omega);have hy:=bN s2 j;have hp:=bN hs' (i+j)
      have hst:wr.cell? ⟨w.heap.size,i+j,none⟩=some (.int .u32 (limb P' (i+j):Nat)):=by
       rw [yE.o.cell,et _ _ (by rw [QJ.o];omega)]
      have rF:=yE.o.frozen (i+j);have pF:limb l i*limb l' j≤4294967295*4294967295:=Nat.mul_le_mul (by omega) (by omega);have Ef:((limb l i:Nat):Int)*((limb l' j:Nat):Int)≤18446744065119617025:=by rw [←Int.natCast_mul];omega
      have YS:0≤((limb l i:Nat):Int)*((limb l' j:Nat):Int):=by rw [←Int.natCast_mul];omega
      have jF: ∀(x:Nat) (v:Int),v=(x:Int)→aQ (wr.setCell ⟨w.heap.size,i+j,none⟩ (.int .u32 v)) w.heap.size 185 (cV (P'.set (i+j) x)):=by
       intro x v hv;subst hv;have:=yE.o.set (i+j) (.int .u32 (x:Nat));rwa [fo]at this
      have HN:=ae jF;clear jF
      go_wp2
      go_roundw
      case rel=>
       have hm:=J1 (x:=limb l i) (q:=q) (P:=P) (by rw [kn.o];omega) (by rw [QJ.o];omega) hval'.o;refine ⟨j+1,(q+(limb l i*limb l' j+limb P' (i+j)))/4294967296,P'.set (i+j) ((q+(limb l i*limb l' j+limb P' (i+j))) % 4294967296),by omega,?_,(show _=_ by simp [QJ.o]),hs'.set _ _ (Nat.mod_lt _ (by decide)),hm,(show∀t,_ from fun t ht=>by rw [tU (by omega),hz'.o t (by omega)]),?_,FC.setCell (Nat.le_refl _) _,?_,by go_num⟩
       ·clear hm;rw [Nat.div_lt_iff_lt_mul (by decide)];omega
       ·exact HN.o _ _ (by simp)
       ·go_num
      case measure=>simp [intOf];omega
     ·obtain rfl:j=len m:=by omega
      have hst:wr.cell? ⟨w.heap.size,i+len m,none⟩=some (.int .u32 (limb P' (i+len m):Nat)):=by
       rw [yE.o.cell,et _ _ (by rw [QJ.o];omega)]
      have rF:=yE.o.frozen (i+len m)
      have jF:aQ (wr.setCell ⟨w.heap.size,i+len m,none⟩ (.int .u32 (q:Nat))) w.heap.size 185 (cV (P'.set (i+len m) q)):=by
       have:=yE.o.set (i+len m) (.int .u32 (q:Nat));rwa [fo]at this
      have HN:=ae jF;clear jF
      go_wp2
      go_roundw
      case rel=>
       refine ⟨i+1,P'.set (i+len m) q,by omega,(show _=_ by simp [QJ.o]),hs'.set _ _ hq,?_,?_,HN.o,FC.setCell (Nat.le_refl _) _,by go_num⟩
       ·show _=_
        have e1:=zX (l:=P') (k:=i+len m) (by rw [QJ.o];omega) q;rw [hz'.o _ (Nat.le_refl _),hz.o _ (Nat.le_refl _)]at e1;have e2:=hval'.o;rw [List.take_of_length_le (by rw [kn.o];exact Nat.le_refl _),Cb.o]at e2;rw [bR (by rw [HL.o];omega),Nat.add_mul,←hval.o,Nat.mul_assoc];omega
       ·show∀t,_
        intro t ht;rw [tU (by omega),hz'.o t (by omega),hz.o t (by omega)]
      case measure=>simp [intOf];omega
  ·obtain rfl:i=len n:=by omega
   have oJ:Raw wr (some ⟨w.heap.size,0,none⟩) (len n+len m) (len n+len m) (n*m):=by
    have h3:=di.o.limbs hs (by rw [hP.o];omega);rw [hP.o]at h3;refine ⟨P,hP.o,?_,h3⟩;rw [hval.o,List.take_of_length_le (by rw [HL.o];exact Nat.le_refl _),HV.o]
   have HR:=ae oJ;clear oJ
   go_wp2_with (go_at_call 193;refine (cC _ _ _ _ _ HR.o).mono ?_;rintro e w' ⟨rfl,rfl⟩)
   go_ret;exact ⟨_,_,rfl,HR.o.cut,Fr.some (Nat.le_refl _),dG⟩
theorem uP (w:World) (a b:Option Addr) (k k' c c' n m:Nat) (ha:Raw w a k c n) (hb:Raw w b k' c' m) (h1:len n<1000000000) (h2:len m<1000000000):
 Calls prog 188 #[.slice a k c,.slice b k' c'] w (iZ (n*m) w):=by
 by_cases h:n=0∨m=0
 ·exact zY w a b k k' c c' n m ha hb h
 ·exact Cc w a b k k' c c' n m ha hb (by omega) (by omega) h1 h2
def FD (q r:Nat) (w:World) (e:Ending) (w':World):Prop:= ∃a c a' c',e= .returned (.tuple #[.slice a (len q) c,.slice a' (len r) c'])∧Raw w' a (len q) c q∧Fr w.heap.size a∧Raw w' a' (len r) c' r∧Fr w.heap.size a'∧Ext w w'
def pj (q r:Nat) (w:World) (e:Ending) (w':World):Prop:= ∃a c a' c',e= .returned (.tuple #[.slice a (len q) c,.slice a' (len r) c',.bool true])∧Raw w' a (len q) c q∧Fr w.heap.size a∧Raw w' a' (len r) c' r∧Fr w.heap.size a'∧Ext w w'
theorem tB (w:World) (a:Option Addr) (c n d:Nat) (ha:Raw w a (len n) c n) (h0:0<d) (hd:d<4294967296):
 Calls prog 232 #[.slice a (len n) c,.int .u32 (d:Nat)] w (FD (n/d) (n % d) w):=by
 have la:=ha.le;obtain ⟨l,hl,hv,hA⟩:=ha;have s1:=hA.small;have HL:=ae hl;have HV:=ae hv
 clear hl hv;have d1:(1:Int)≤(d:Int):=by omega
 have d0:((d:Int)==0)=false:=by rw [beq_eq_false_iff_ne];omega
 go_enter func232,ntmps232
 go_wp2_with (at_make;refine bO _ rfl _ _ 115 rfl 185 (.int .u32 0) 4 underlying115 Tryz.info_u32 rfl _ _ (len n) rfl rfl (by go_num) (by go_num) (by omega) (by omega) ?_;intro w1 gH hx1 hz1)
 go_loopw [6,7] (fun rr i wr=> ∃(j r:Nat) (Q:List Nat),j≤len n∧r<d∧Hid (Q.length=len n)∧Small Q∧Hid (val (Q.drop j)*d+r=val (l.drop j))∧Hid (aQ wr w.heap.size 185 (cV Q))∧Ext w wr∧rr= .int .u64 r∧i= .int .i64 ((j:Int)-1)) (fun _ i _=>(intOf i+1).toNat)
 case atStart=>
  refine ⟨len n,0,List.replicate (len n) 0,Nat.le_refl _,h0,(show _=_ by simp),Small.replicate _,(show _=_ by rw [List.drop_of_length_le (by simp),List.drop_of_length_le (by rw [HL.o];exact Nat.le_refl _)];simp [val]),by have:=gH.o;rw [cT]at this;exact this,hx1,rfl,rfl⟩
 case round=>
  obtain ⟨j,r,Q,hj,hr,hQ,hs,hval,di,dG,rfl,rfl⟩:=hrel;by_cases hj0:0<j
  ·obtain ⟨i,rfl⟩: ∃i,j=i+1:=⟨j-1,by omega⟩
   rw [show(((i+1:Nat):Int)-1)=(i:Int)from by omega];obtain ⟨p,o,rfl⟩:=hA.at (by rw [HL.o];omega);have hc:=(hA.ext dG).cellAt i (by rw [HL.o];omega);have hx:=bN s1 i
   have hst:wr.cell? ⟨w.heap.size,i,none⟩=some (.int .u32 (limb Q i:Nat)):=by
    rw [di.o.cell,et _ _ (by rw [hQ.o];omega)]
   have rF:=di.o.frozen i;have hor:=AG r (limb l i) (by omega) hx;obtain ⟨hstep,hlt⟩:=JZ h0 hr hx hval.o;have HS:=ae hstep;clear hstep
   have YT:=Nat.mod_lt (limb l i+4294967296*r) h0
   have e1:(((limb l i+4294967296*r:Nat):Int)/(d:Int)) % 4294967296=(((limb l i+4294967296*r)/d:Nat):Int):=by
    rw [←Int.natCast_ediv];generalize (limb l i+4294967296*r)/d=z at*;omega
   have e2:((limb l i+4294967296*r:Nat):Int) % (d:Int)=(((limb l i+4294967296*r) % d:Nat):Int):=by
    rw [Int.natCast_emod]
   have jF: ∀(x:Nat) (v:Int),v=(x:Int)→aQ (wr.setCell ⟨w.heap.size,i,none⟩ (.int .u32 v)) w.heap.size 185 (cV (Q.set i x)):=by
    intro x v hv;subst hv;have:=di.o.set i (.int .u32 (x:Nat));rwa [fo]at this
   have HN:=ae jF;clear jF
   have E1:=ae e1;have E2:=ae e2;clear e1 e2
   go_wp2
   go_roundw
   case rel=>
    refine ⟨i,(limb l i+4294967296*r) % d,Q.set i ((limb l i+4294967296*r)/d),by omega,YT,(show _=_ by simp [hQ.o]),hs.set _ _ hlt,?_,HN.o _ _ ?_,dG.setCell (Nat.le_refl _) _,?_,rfl⟩
    ·show _=_
     rw [rE (by rw [hQ.o];omega),eF (l:=l) (by rw [HL.o];omega)];exact HS.o
    ·rw [←E1.o];simp
    ·rw [←E2.o];simp
   case measure=>simp [intOf]
  ·obtain rfl:j=0:=by omega
   have Pg:val Q*d+r=n:=by have:=hval.o;simpa [HV.o]using this
   have e1:val Q=n/d:=by
    rw [←Pg,Nat.mul_comm,Nat.mul_add_div h0,Nat.div_eq_of_lt hr,Nat.add_zero]
   have e2:r=n % d:=by
    rw [←Pg,Nat.mul_comm,Nat.mul_add_mod,Nat.mod_eq_of_lt hr]
   have oJ:Raw wr (some ⟨w.heap.size,0,none⟩) (len n) (len n) (n/d):=by
    have h3:=di.o.limbs hs (by rw [hQ.o];omega);rw [hQ.o]at h3;exact ⟨Q,hQ.o,e1,h3⟩
   have HR:=ae oJ;have E2:=ae e2;clear oJ Pg e1 e2
   go_wp2_with fail
   refine (cC _ _ _ _ _ HR.o).mono ?_;rintro e w' ⟨rfl,rfl⟩;go_wp2_with fail
   refine (cU _ _ (by omega)).mono ?_;rintro e w2 ⟨a2,c2,rfl,hr2,hf2,hx2⟩;go_wp2
   go_ret2
   rw [←E2.o];exact ⟨_,_,a2,c2,rfl,HR.o.cut.ext hx2,Fr.some (Nat.le_refl _),hr2,hf2.mono dG.size,dG.trans hx2⟩
end Go.Proofs.YtkpngkdgphojlaaGreat
