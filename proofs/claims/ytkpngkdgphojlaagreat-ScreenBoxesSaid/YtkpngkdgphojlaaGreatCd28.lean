/- Texts of the proof. -/
import Derived.Test.YtkpngkdgphojlaaGreatCd27
set_option linter.all false
set_option maxHeartbeats 4000000
set_option maxRecDepth 100000
namespace Go.Proofs.YtkpngkdgphojlaaGreat
open Go.Proofs.Tryz
open Go.RowKit
theorem EO (N m b:Nat) (hm:0<m) (hb:b<2):
 (m≤2*(N % m)+b→(2*N+b)/m=2*(N/m)+1∧(2*N+b) % m=2*(N % m)+b-m)∧
 (¬m≤2*(N % m)+b→(2*N+b)/m=2*(N/m)∧(2*N+b) % m=2*(N % m)+b):=by
 have h1:=Nat.div_add_mod N m;have h2:=Nat.mod_lt N hm;generalize N/m=q at*;generalize N % m=r at*;constructor
 ·intro h
  have e:2*N+b=(2*r+b-m)+m*(2*q+1):=by
   rw [←h1,Nat.mul_add m,Nat.mul_left_comm m 2];omega
  rw [e,Nat.add_mul_div_left _ _ hm,Nat.add_mul_mod_self_left,Nat.div_eq_of_lt (by omega),Nat.mod_eq_of_lt (by omega)];exact ⟨by omega,rfl⟩
 ·intro h
  have e:2*N+b=(2*r+b)+m*(2*q):=by
   rw [←h1,Nat.mul_left_comm m 2];omega
  rw [e,Nat.add_mul_div_left _ _ hm,Nat.add_mul_mod_self_left,Nat.div_eq_of_lt (by omega),Nat.mod_eq_of_lt (by omega)];exact ⟨by omega,rfl⟩
theorem Gd (n i:Nat):n/2^i=2*(n/2^(i+1))+n/2^i % 2:=by
 rw [Nat.pow_succ,←Nat.div_div_eq_div_mul];omega
theorem Lx {l:List Nat} (hs:Small l) {t:Nat} (ht:t<l.length):limb l t=val l/4294967296^t % 4294967296:=by
 have e:=jf l t ht;have hv:=BC hs (t:=t) (by omega);rw [e,Nat.add_mul_div_left _ _ (Nat.pow_pos (by decide)),Nat.div_eq_of_lt hv,Nat.zero_add,Nat.add_mul_mod_self_left,Nat.mod_eq_of_lt (eR hs t)]
theorem Lz {l:List Nat} (hs:Small l) {i Q:Nat} (hv:val l=Q*2^(i+1)) (hi:i/32<l.length):
 limb l (i/32)|||2^(i % 32)<4294967296∧val (l.set (i/32) (limb l (i/32)|||2^(i % 32)))=Q*2^(i+1)+2^i:=by
 have hk:i % 32<32:=Nat.mod_lt _ (by decide);have Sy:=Lx hs hi
 have e1:Q*2^(i+1)=4294967296^(i/32)*(Q*2^(i % 32+1)):=by
  rw [pow_eq,Nat.mul_left_comm,←Nat.pow_add];congr 2;omega
 have e2:2^i=4294967296^(i/32)*2^(i % 32):=by
  rw [pow_eq,←Nat.pow_add];congr 1;omega
 rw [hv,e1,Nat.mul_div_cancel_left _ (Nat.pow_pos (by decide))]at Sy;have hval:=zf hi (limb l (i/32)|||2^(i % 32));rw [hv,e1]at hval;rw [e1,e2];generalize i % 32=k at*;generalize i/32=t at*;have e3:(4294967296:Nat)=2^(k+1)*2^(31-k):=by rw [←Nat.pow_add,show k+1+(31-k)=32 from by omega]
 have e4:limb l t=2^(k+1)*(Q % 2^(31-k)):=by
  rw [Sy];conv=>lhs;rw [e3]
  rw [Nat.mul_comm Q,Nat.mul_mod_mul_left]
 have e5:limb l t|||2^k=limb l t+2^k:=by
  rw [e4,Nat.two_pow_add_eq_or_of_lt (Nat.pow_lt_pow_right (by decide) (by omega))]
 have h6:=Nat.mod_lt Q (Nat.two_pow_pos (31-k));have h7:=Nat.mul_le_mul_left (2^(k+1)) (show Q % 2^(31-k)+1≤2^(31-k)from h6);rw [←e3,Nat.mul_add,Nat.mul_one,←e4]at h7;have h8:2^k<2^(k+1):=Nat.pow_lt_pow_right (by decide) (by omega);refine ⟨by rw [e5];omega,?_⟩;rw [e5]at hval⊢;rw [Nat.mul_add (4294967296^t)]at hval;omega
theorem dU (w:World) (a:Option Addr) (k c n:Nat) (h:Raw w a k c n):
 Calls prog 211 #[.slice a k c] w (oO n w):=by
 have hR:=h;obtain ⟨l,rfl,rfl,h⟩:=h;have h1:=h.le;have h2:=h.cap;have h3:=h.short;go_enter func211,ntmps211
 go_wp2
 go_loop [3] (fun i=> ∃k:Nat,k≤l.length∧val (l.take k)=val l∧i= .int .i64 k) (fun i=>(intOf i).toNat)
 case atStart=>exact ⟨_,Nat.le_refl _,by rw [List.take_length],rfl⟩
 case round=>
  obtain ⟨k,hk,hv,rfl⟩:=hrel;have HV:=ae hv;clear hv
  have fin:len (val l)=k→ ∀v' w',(w'.ownsRow w.heap.size 185 1 v' (0+k) ([]++fN (l.take k)))→Ext w w'→oO (val l) w (.returned v') w':=by
   intro e v' w' ho he;rw [List.nil_append,Nat.zero_add]at ho;obtain ⟨a',c',rfl,_,hL,hF⟩:=wk ho (h.small.take k) (by rw [List.length_take];omega);refine ⟨a',c',by rw [e],?_,hF,he⟩;rw [e];exact ⟨l.take k,by rw [List.length_take];omega,HV.o,hL⟩
  have Ok:=ae fin;clear fin
  by_cases h0:0<k
  ·obtain ⟨b,o,rfl⟩:=h.at (by omega)
   have hc:=h.cellAt (k-1) (by omega);by_cases hz:limb l (k-1)=0
   ·have hz':((limb l (k-1):Nat):Int)=0:=by omega
    rw [hz']at hc;have HZ:=ae hz;clear hz hz'
    go_wp2
    go_round
    case rel=>
     refine ⟨k-1,by omega,?_,by go_num⟩;have:=dT (l:=l) (k:=k-1) (by omega);rw [HZ.o,show k-1+1=k from by omega,HV.o]at this;rw [this];simp
    case measure=>simp [intOf];omega
   ·have hz':(((limb l (k-1):Nat):Int)==0)=false:=by rw [beq_eq_false_iff_ne];omega
    have e:len (val l)=k:=by
     rw [←HV.o];have:=EJ (h.small.take k) (by rw [List.length_take];omega) (by rw [List.length_take,Nat.min_eq_left hk,qO (by omega)];exact hz);rw [this,List.length_take,Nat.min_eq_left hk]
    have E:=ae e;clear e
    have HZ:=ae hz;clear hz
    have hT:=(h.take k hk);go_wp2_with (at_builtin;refine iP _ rfl _ _ 115 rfl w.heap.size 185 (.int .u32 0) 1 4 underlying115 Tryz.info_u32 rfl (by decide) _ 0 [] rfl ?c1 _ k c (fN (l.take k)) rfl ?c2 ?c3 (uj _) ?c4 ?c5 (by decide) ?c6 ?_;rotate_right;intro v' w' ho he hb hz)
    case c1=>exact kK _ _ _ _ (Nat.le_refl _) (aJ.alloc w _ [])
    case c2=>rw [m8,List.length_take];omega
    case c3=>
     intro j u hu;obtain ⟨ad,e,hh⟩:=(hT.ext ((Ext.refl w).alloc (.cells #[] 185))).src (by rw [List.length_take];omega);cases e
     have hh':=hh j u hu;by_cases hj:j=0<;>simpa [Addr.add,hj]using hh'
    case c5=>omega
    go_ret;exact Ok.o E.o _ _ ho.o (he.o w ((Ext.refl _).alloc _) (Nat.le_refl _))
  ·obtain rfl:k=0:=by omega
   have e:len (val l)=0:=by rw [←HV.o];rfl
   have E:=ae e;clear e
   rcases a with _|⟨b,o⟩
   ·have hl0:l.length=0:=by
     rcases Nat.eq_zero_or_pos l.length with e|e
     ·exact e
     ·obtain ⟨b,o,e'⟩:=h.at e;cases e'
    have hc0:=h.GJ rfl;subst hc0;go_wp2_with (at_builtin;refine iP _ rfl _ _ 115 rfl w.heap.size 185 (.int .u32 0) 1 4 underlying115 Tryz.info_u32 rfl (by decide) _ 0 [] rfl ?d1 _ 0 0 (fN (l.take 0)) rfl ?d2 ?d3 (uj _) ?d4 ?d5 (by decide) ?d6 ?_;rotate_right;intro v' w' ho he hb hz)
    case d1=>exact kK _ _ _ _ (Nat.le_refl _) (aJ.alloc w _ [])
    go_ret;exact Ok.o E.o _ _ ho.o (he.o w ((Ext.refl _).alloc _) (Nat.le_refl _));rfl
   ·go_wp2_with (at_builtin;refine iP _ rfl _ _ 115 rfl w.heap.size 185 (.int .u32 0) 1 4 underlying115 Tryz.info_u32 rfl (by decide) _ 0 [] rfl ?e1 _ 0 c (fN (l.take 0)) rfl ?e2 ?e3 (uj _) ?e4 ?e5 (by decide) ?e6 ?_;rotate_right;intro v' w' ho he hb hz)
    case e1=>exact kK _ _ _ _ (Nat.le_refl _) (aJ.alloc w _ [])
    go_ret;exact Ok.o E.o _ _ ho.o (he.o w ((Ext.refl _).alloc _) (Nat.le_refl _));rfl
theorem jq (w:World) (n:Nat) (hn:n<18446744073709551616):
 Calls prog 176 #[.int .u64 (n:Nat)] w (oO n w):=by
 have hr:Raw (w.alloc (Obj.cells #[.int .u32 ((n:Int) % 4294967296),.int .u32 ((n:Int)/4294967296)] 185)) (some ⟨w.heap.size,0,none⟩) 2 2 n:=by
  have ha:=aJ.alloc w 185 (fN [n % 4294967296,n/4294967296]);exact ⟨_,rfl,by simp [val];omega,ha.limbs (Small.append (l:= [_]) (m:= [_]) (Small.one (by omega)) (Small.one (by omega))) (by simp)⟩
 go_enter func176,ntmps176
 go_wp2_with fail
 refine (dU _ _ _ _ _ hr).mono ?_;rintro e w' ⟨a,c,rfl,h1,h2,h3⟩;go_wp2
 go_ret;exact ⟨_,_,rfl,h1,h2.mono (by simp),((Ext.refl _).alloc _).trans h3⟩
theorem jr (w:World) (a:Option Addr) (k c n:Nat) (h:Raw w a k c n) (hn:n<18446744073709551616):
 Calls prog 224 #[.slice a k c] w fun e w'=>e= .returned (.tuple #[.int .u64 (n:Nat),.bool true])∧Ext w w':=by
 have h2:=mr.2 hn;go_enter func224,ntmps224
 go_wp2_with fail
 refine (dU _ _ _ _ _ h).mono ?_;rintro e w' ⟨a',c',rfl,hR,hF,hX⟩;have hE:=ae hX;clear hX hn
 obtain ⟨l,hl,rfl,hL⟩:=hR;have hs:=hL.small;rw [←hl]at h2⊢;clear hl;rcases l with _|⟨x,_|⟨y,_|⟨z,l⟩⟩⟩
 ·have h:=hL
  go_wp2
  refine wp_loop_rounds 1 ?_;rw [rounds_succ]
  go_wp2
  go_ret2
  exact ⟨rfl,hE.o⟩
 ·have h:=hL
  obtain ⟨b,o,rfl⟩:=h.at (by simp);have hc:=h.cellAt 0 (by simp);have hx:=hs x (by simp);simp [limb]at hc;go_wp2
  refine wp_loop_rounds 2 ?_;rw [rounds_succ]
  go_wp2
  rw [rounds_succ];go_wp2
  go_ret2
  refine ⟨?_,hE.o⟩;simp [Array.getD,val];exact or_zero x (by omega)
 ·have h:=hL
  obtain ⟨b,o,rfl⟩:=h.at (by simp);have hc:=h.cellAt 0 (by simp);have hc1:=h.cellAt 1 (by simp);have hx:=hs x (by simp);have hy:=hs y (by simp);simp [limb]at hc hc1;go_wp2
  refine wp_loop_rounds 3 ?_;rw [rounds_succ]
  go_wp2
  rw [rounds_succ];go_wp2
  rw [rounds_succ];go_wp2
  go_ret2
  refine ⟨?_,hE.o⟩;simp [Array.getD,val];rw [or_zero y (by omega)]
  have e:IntKind.u64.wrap ((y:Int)*4294967296)=(y:Int)*4294967296:=by
   rw [IntKind.wrap_u64];omega
  rw [e,Qn y x hy hx];omega
 ·simp at h2
theorem qu (w:World) (a:Option Addr) (k c n:Nat) (h:Raw w a k c n) (hn:18446744073709551616≤n):
 Calls prog 224 #[.slice a k c] w fun e w'=>e= .returned (.tuple #[.int .u64 0,.bool false])∧Ext w w':=by
 have h2:2<len n:=by have:= @mr n;omega
 have hl:=h.cut.le;go_enter func224,ntmps224
 go_wp2_with fail
 refine (dU _ _ _ _ _ h).mono ?_;rintro e w' ⟨a',c',rfl,hR,hF,hX⟩;have hE:=ae hX;clear hX hn
 go_wp2
 go_ret2
 exact ⟨rfl,hE.o⟩
theorem vq (w:World) (a b:Option Addr) (k k' c c' n m:Nat) (ha:Raw w a k c n) (hb:Raw w b k' c' m):
 Calls prog 235 #[.slice a k c,.slice b k' c'] w fun e w'=>e= .returned (.int .i64 (kt n m))∧Ext w w':=by
 go_enter func235,ntmps235
 go_wp2_with fail
 refine (dU _ _ _ _ _ ha).mono ?_;rintro e w1 ⟨a1,c1,rfl,U0,Mj,MC⟩;go_wp2_with fail
 refine (dU _ _ _ _ _ (hb.ext MC)).mono ?_;rintro e w2 ⟨b1,d1,rfl,wZ,hF2,MD⟩;have ha':=U0.ext MD;have hb':=wZ;have la:=ha'.le;have lb:=hb'.le;have HX:=ae (MC.trans MD);by_cases hne:len n=len m
 ·obtain ⟨l,hl,hv,hA⟩:=ha'
  obtain ⟨l',hl',hv',hB⟩:=hb';have s1:=hA.small;have s2:=hB.small;have Dx:(((len n:Nat):Int) !=((len m:Nat):Int))=false:=by simp [hne]
  rw [←hne]at hl' lb Dx;have HL:=ae hl;have rI:=ae hl';have HV:=ae hv;have IY:=ae hv';have HN:=ae hne
  clear hl hl' hv hv' hne;rw [←HN.o];go_wp2
  go_loopw [5] (fun i wr=> ∃j:Nat,j≤len n∧l.drop j=l'.drop j∧i= .int .i64 ((j:Int)-1)∧Quiet w2 wr) (fun i _=>(intOf i+1).toNat)
  case atStart=>exact ⟨len n,Nat.le_refl _,by rw [List.drop_of_length_le (by rw [HL.o];exact Nat.le_refl _),List.drop_of_length_le (by rw [rI.o];exact Nat.le_refl _)],rfl,Quiet.refl _⟩
  case round=>
   obtain ⟨j,hj,hd,rfl,hq⟩:=hrel;have HD:=ae hd;clear hd
   by_cases h0:0<j
   ·obtain ⟨i,rfl⟩: ∃i,j=i+1:=⟨j-1,by omega⟩
    rw [show(((i+1:Nat):Int)-1)=(i:Int)from by omega];obtain ⟨p,o,rfl⟩:=hA.at (by rw [HL.o];omega);obtain ⟨p',o',rfl⟩:=hB.at (by rw [rI.o];omega);have hc:=(hA.ext hq.ext).cellAt i (by rw [HL.o];omega);have hc':=(hB.ext hq.ext).cellAt i (by rw [rI.o];omega);have hx:=eR s1 i;have hy:=eR s2 i;have g1:(i:Int)<(len n:Int):=by omega
    have g2:(0:Int)≤(i:Int):=by omega
    by_cases c1:limb l i<limb l' i
    ·have d1:decide (((limb l i:Nat):Int)<((limb l' i:Nat):Int))=true:=by simp;omega
     go_wp2
     go_quiet (fail)
     go_wp2
     go_ret;refine ⟨cS ?_,HX.o.trans (hq.drewN _).ext⟩;have:=n7 s1 (k:=i) (by rw [HL.o];omega) (by rw [rI.o];omega) (by rw [HD.o]) c1;rw [HV.o,IY.o]at this;unfold kt;rw [if_pos this]
    ·by_cases c2:limb l' i<limb l i
     ·have d1:decide (((limb l i:Nat):Int)<((limb l' i:Nat):Int))=false:=by simp;omega
      have d2:decide (((limb l' i:Nat):Int)<((limb l i:Nat):Int))=true:=by simp;omega
      go_wp2
      go_quiet (fail)
      go_wp2
      go_quiet (fail)
      go_wp2
      go_ret;refine ⟨cS ?_,HX.o.trans ((hq.drewN _).drewN _).ext⟩;have:=n7 s2 (k:=i) (by rw [rI.o];omega) (by rw [HL.o];omega) (by rw [HD.o]) c2;rw [HV.o,IY.o]at this;unfold kt;rw [if_neg (by omega),if_neg (by omega)]
     ·have d1:decide (((limb l i:Nat):Int)<((limb l' i:Nat):Int))=false:=by simp;omega
      have d2:decide (((limb l' i:Nat):Int)<((limb l i:Nat):Int))=false:=by simp;omega
      go_wp2
      go_quiet (fail)
      go_wp2
      go_quiet (fail)
      go_wp2
      go_roundw
      case rel=>
           refine ⟨i,by omega,?_,rfl,hq.drewN _⟩;have e1:limb l i=limb l' i:=by omega
           have e2:i<l.length:=by rw [HL.o];omega
           have e3:i<l'.length:=by rw [rI.o];omega
           rw [List.drop_eq_getElem_cons e2,List.drop_eq_getElem_cons e3,HD.o];simp only [limb,List.getElem?_eq_getElem e2,List.getElem?_eq_getElem e3,Option.getD_some]at e1;rw [e1]
      case measure=>simp [intOf]
   ·obtain rfl:j=0:=by omega
    go_wp2
    go_ret;refine ⟨cS ?_,HX.o.trans hq.ext⟩;have:n=m:=by rw [←HV.o,←IY.o];have:=HD.o;simp at this;rw [this]
    unfold kt;rw [if_neg (by omega),if_pos this]
 ·have Dx:(((len n:Nat):Int) !=((len m:Nat):Int))=true:=by simp;omega
  by_cases hlt:len n<len m
  ·go_wp2
   go_ret;refine ⟨cS ?_,HX.o⟩
   have:n<m:=by
    apply Nat.lt_of_not_le;intro h;have:=dJ h;omega
   unfold kt;rw [if_pos this]
  ·go_wp2
   go_ret;refine ⟨cS ?_,HX.o⟩
   have:m<n:=by
    apply Nat.lt_of_not_le;intro h;have:=dJ h;omega
   unfold kt;rw [if_neg (by omega),if_neg (by omega)]
theorem BJ (w:World) (a b:Option Addr) (c c':Nat) (l l':List Nat) (hA:ep w a c l) (hB:ep w b c' l'):
 Calls prog 171 #[.slice a l.length c,.slice b l'.length c'] w fun e w'=>e= .returned (.bool (decide (l=l')))∧Quiet w w':=by
 have s1:=hA.small;have s2:=hB.small;have h1:=hA.le;have h2:=hA.short;have h3:=hB.short;by_cases hne:l.length=l'.length
 ·have Dx:(((l.length:Nat):Int) !=((l'.length:Nat):Int))=false:=by simp [hne]
  have HN:=ae hne;clear hne
  go_enter func171,ntmps171
  go_wp2
  go_loopw [5] (fun i wr=> ∃j:Nat,j≤l.length∧l.take j=l'.take j∧i= .int .i64 (j:Int)∧Quiet w wr) (fun i _=>l.length-(intOf i).toNat)
  case atStart=>exact ⟨0,Nat.zero_le _,by simp,rfl,Quiet.refl _⟩
  case round=>
   obtain ⟨j,hj,hd,rfl,hq⟩:=hrel;have HD:=ae hd;clear hd
   by_cases h0:j<l.length
   ·obtain ⟨p,o,rfl⟩:=hA.at (by omega)
    obtain ⟨p',o',rfl⟩:=hB.at (by rw [←HN.o];omega);have hc:=(hA.ext hq.ext).cellAt j (by omega);have hc':=(hB.ext hq.ext).cellAt j (by rw [←HN.o];omega);have g1:(j:Int)<(l.length:Int):=by omega
    have g1':(j:Int)<(l'.length:Int):=by rw [←HN.o];omega
    have g2:(0:Int)≤(j:Int):=by omega
    by_cases c1:limb l j=limb l' j
    ·have d1:(((limb l j:Nat):Int) !=((limb l' j:Nat):Int))=false:=by simp;omega
     go_wp2
     go_quiet (fail)
     go_wp2
     go_roundw
     case rel=>
      refine ⟨j+1,by omega,?_,by go_num,hq.drewN _⟩;rw [rH h0,rH (by rw [←HN.o];exact h0),HD.o,c1]
     case measure=>simp [intOf];omega
    ·have d1:(((limb l j:Nat):Int) !=((limb l' j:Nat):Int))=true:=by simp;omega
     go_wp2
     go_quiet (fail)
     go_wp2
     go_ret
     have:decide (l=l')=false:=by
      rw [decide_eq_false_iff_not];intro e;exact c1 (by rw [e])
     exact ⟨by rw [this];rfl,hq.drewN _⟩
   ·obtain rfl:j=l.length:=by omega
    go_wp2
    go_ret
    have:decide (l=l')=true:=by
     rw [decide_eq_true_iff];have:=HD.o;rwa [List.take_length,HN.o,List.take_length]at this
    exact ⟨by rw [this];rfl,hq⟩
 ·have Dx:(((l.length:Nat):Int) !=((l'.length:Nat):Int))=true:=by simp;omega
  go_enter func171,ntmps171
  go_wp2
  go_ret
  have:decide (l=l')=false:=by
   rw [decide_eq_false_iff_not];intro e;exact hne (by rw [e])
  exact ⟨by rw [this];rfl,Quiet.refl _⟩
theorem nH (l:List Nat) (k:Nat):val (l.take (k+1))=val (l.take k)+4294967296^k*limb l k:=by
 by_cases h:k<l.length
 ·exact dT h
 ·rw [List.take_of_length_le (by omega),List.take_of_length_le (by omega),iV (by omega)];simp
theorem x_ {L M r:List Nat} {i cy:Nat} (hr:r.length=i) (hv:val r+4294967296^i*cy=val (L.take i)+val (M.take i)):
 val (r++ [(cy+limb L i+limb M i) % 4294967296])+4294967296^(i+1)*((cy+limb L i+limb M i)/4294967296)=val (L.take (i+1))+val (M.take (i+1)):=by
 rw [lL,o7,hr,nH L,nH M,Nat.pow_succ,Nat.mul_assoc];generalize 4294967296^i=p at*
 have e2:p*((cy+limb L i+limb M i) % 4294967296)+p*(4294967296*((cy+limb L i+limb M i)/4294967296))=p*cy+p*limb L i+p*limb M i:=by
  rw [←Nat.mul_add,Nat.mod_add_div,Nat.mul_add,Nat.mul_add]
 omega
theorem vr {w:World} {b K j:Nat} {T:TypeId} {r:List Nat} (h:aJ w b T (fN (r++List.replicate (K-j) 0))) (hr:r.length=j) (hj:j<K) (x:Nat):aJ (w.setCell ⟨b,j,none⟩ (.int .u32 (x:Nat))) b T (fN ((r++ [x])++List.replicate (K-(j+1)) 0)):=by
 have:=h.set j (.int .u32 (x:Nat));rw [Ab,List.set_append_right _ _ (by rw [hr];exact Nat.le_refl _),hr,Nat.sub_self,show K-j=(K-(j+1))+1 from by omega,List.replicate_succ,List.set_cons_zero]at this;rw [List.append_assoc];exact this
theorem vt {w:World} {b K j:Nat} {T:TypeId} {r:List Nat} (h:aJ w b T (fN (r++List.replicate (K-j) 0))) (hr:r.length=j) (hj:j<K):w.cell? ⟨b,j,none⟩=some (.int .u32 0):=by
 rw [h.cell,m9 _ _ (by simp [hr];omega)];simp [limb,hr,show 0<K-j from by omega]
theorem carry_zero {l l':List Nat} (s1:Small l) (s2:Small l') {M q x:Nat} (h1:l.length≤M) (h2:l'.length≤M) (hv:x+4294967296^(M+1)*q=val l+val l'):q=0:=by
 have v1:=kJ s1;have v2:=kJ s2;have p1:=Nat.pow_le_pow_right (show 0<4294967296 by decide) h1;have p2:=Nat.pow_le_pow_right (show 0<4294967296 by decide) h2;rcases Nat.eq_zero_or_pos q with e|e
 ·exact e
 ·rw [Nat.pow_succ]at hv
  generalize 4294967296^M=z at*;have:=Nat.le_mul_of_pos_right (z*4294967296) e;omega
theorem EP {wr:World} {b:Nat} {T:TypeId} {l l' r:List Nat} (s1:Small l) (s2:Small l') {M q:Nat} (h1:l.length≤M) (h2:l'.length≤M) (hM:M<1000000000) (hr:r.length=M+1) (hs:Small r)
 (hv:val r+4294967296^(M+1)*q=val (l.take (M+1))+val (l'.take (M+1))) (kn:aJ wr b T (fN (r++List.replicate (M+1-(M+1)) 0))):Raw wr (some ⟨b,0,none⟩) (M+1) (M+1) (val l+val l'):=by
 rw [List.take_of_length_le (by omega),List.take_of_length_le (by omega)]at hv;rw [carry_zero s1 s2 h1 h2 hv,Nat.mul_zero,Nat.add_zero]at hv;rw [Nat.sub_self,List.replicate_zero,List.append_nil]at kn;have h4:=kn.limbs hs (by rw [hr];omega);rw [hr]at h4;exact ⟨r,hr,hv,h4⟩
theorem o9 (w:World) (a b:Option Addr) (k k' c c' n m:Nat) (ha:Raw w a k c n) (hb:Raw w b k' c' m) (hk:k<1000000000) (vV:k'<1000000000):
 Calls prog 226 #[.slice a k c,.slice b k' c'] w (oO (n+m) w):=by
 obtain ⟨l,rfl,rfl,hA⟩:=ha;obtain ⟨l',rfl,rfl,hB⟩:=hb;have s1:=hA.small;have s2:=hB.small;by_cases hlt:l.length<l'.length
 ·go_enter func226,ntmps226
  go_wp2_with (at_make;refine dF _ rfl _ _ 115 rfl 185 (.int .u32 0) 4 underlying115 Tryz.info_u32 rfl _ _ (l'.length+1) rfl rfl (by go_num) (by go_num) (by omega) (by omega) ?_;intro w1 fK hx1 hz1)
  go_loopw [6,7] (fun cy i wr=> ∃(j q:Nat) (r:List Nat),j≤l'.length+1∧Hid (r.length=j)∧Small r∧q≤1∧Hid (val r+4294967296^j*q=val (l.take j)+val (l'.take j))∧Hid (aJ wr w.heap.size 185 (fN (r++List.replicate (l'.length+1-j) 0)))∧Ext w wr∧cy= .int .u64 q∧i= .int .i64 j) (fun _ i _=>l'.length+1-(intOf i).toNat)
  case atStart=>exact ⟨0,0,[],Nat.zero_le _,rfl,Small.nil,Nat.zero_le _,rfl,by have:=fK.o;rw [gb]at this;exact this,hx1,rfl,rfl⟩
  case round=>
   obtain ⟨j,q,r,hj,hr,hs,hq,hval,kn,iJ,rfl,rfl⟩:=hrel;by_cases h0:j<l'.length+1
   ·have hst:=vt kn.o hr.o h0
    have BH:=kn.o.frozen j;have HN:=ae (fun x=>vr kn.o hr.o h0 x);have gN:=ae (x_ (L:=l) (M:=l') (cy:=q) (i:=j) hr.o hval.o);have hx:=eR s1 j;have hy:=eR s2 j;by_cases h1:j<l.length
    ·by_cases h2:j<l'.length
     ·obtain ⟨p,o,rfl⟩:=hA.at (by omega)
      have hc:=(hA.ext iJ).cellAt j (by omega);obtain ⟨p',o',rfl⟩:=hB.at (by omega);have hc':=(hB.ext iJ).cellAt j (by omega);go_wp2
      go_roundw
      case rel=>
       have gN:=gN.o;refine ⟨j+1,(q+limb l j+limb l' j)/4294967296,r++ [(q+limb l j+limb l' j) % 4294967296],by omega,(show _=_ by simp [hr.o]),hs.append (Small.one (Nat.mod_lt _ (by decide))),by omega,gN,HN.o _,iJ.setCell (Nat.le_refl _) _,?_,?_⟩<;>go_num
      case measure=>simp [intOf];omega
     ·exfalso;omega
    ·by_cases h2:j<l'.length
     ·have e1:=ae (iV (l:=l) (i:=j) (by omega))
      obtain ⟨p',o',rfl⟩:=hB.at (by omega);have hc':=(hB.ext iJ).cellAt j (by omega);go_wp2
      go_roundw
      case rel=>
       have gN:=gN.o;rw [e1.o,Nat.add_zero]at gN;refine ⟨j+1,(q+limb l' j)/4294967296,r++ [(q+limb l' j) % 4294967296],by omega,(show _=_ by simp [hr.o]),hs.append (Small.one (Nat.mod_lt _ (by decide))),by omega,gN,HN.o _,iJ.setCell (Nat.le_refl _) _,?_,?_⟩<;>go_num
      case measure=>simp [intOf];omega
     ·have e1:=ae (iV (l:=l) (i:=j) (by omega))
      have e2:=ae (iV (l:=l') (i:=j) (by omega));go_wp2
      go_roundw
      case rel=>
       have gN:=gN.o;rw [e1.o,Nat.add_zero]at gN;rw [e2.o,Nat.add_zero]at gN;rw [Nat.mod_eq_of_lt (show q<4294967296 by omega)]at gN;refine ⟨j+1,q/4294967296,r++ [q],by omega,(show _=_ by simp [hr.o]),hs.append (Small.one (by omega)),by omega,gN,HN.o _,iJ.setCell (Nat.le_refl _) _,?_,?_⟩<;>go_num
      case measure=>simp [intOf];omega
   ·obtain rfl:j=l'.length+1:=by omega
    have HR:=ae (EP s1 s2 (M:=l'.length) (by omega) (by omega) (by omega) hr.o hs hval.o kn.o);clear hval;go_wp2_with fail
    refine (dU _ _ _ _ _ HR.o).mono ?_;rintro e w' ⟨a',c',rfl,hR,hF,hX⟩;go_wp2
    go_ret;exact ⟨_,_,rfl,hR,hF.mono iJ.size,iJ.trans hX⟩
 ·go_enter func226,ntmps226
  go_wp2_with (at_make;refine dF _ rfl _ _ 115 rfl 185 (.int .u32 0) 4 underlying115 Tryz.info_u32 rfl _ _ (l.length+1) rfl rfl (by go_num) (by go_num) (by omega) (by omega) ?_;intro w1 fK hx1 hz1)
  go_loopw [6,7] (fun cy i wr=> ∃(j q:Nat) (r:List Nat),j≤l.length+1∧Hid (r.length=j)∧Small r∧q≤1∧Hid (val r+4294967296^j*q=val (l.take j)+val (l'.take j))∧Hid (aJ wr w.heap.size 185 (fN (r++List.replicate (l.length+1-j) 0)))∧Ext w wr∧cy= .int .u64 q∧i= .int .i64 j) (fun _ i _=>l.length+1-(intOf i).toNat)
  case atStart=>exact ⟨0,0,[],Nat.zero_le _,rfl,Small.nil,Nat.zero_le _,rfl,by have:=fK.o;rw [gb]at this;exact this,hx1,rfl,rfl⟩
  case round=>
   obtain ⟨j,q,r,hj,hr,hs,hq,hval,kn,iJ,rfl,rfl⟩:=hrel;by_cases h0:j<l.length+1
   ·have hst:=vt kn.o hr.o h0
    have BH:=kn.o.frozen j;have HN:=ae (fun x=>vr kn.o hr.o h0 x);have gN:=ae (x_ (L:=l) (M:=l') (cy:=q) (i:=j) hr.o hval.o);have hx:=eR s1 j;have hy:=eR s2 j;by_cases h1:j<l.length
    ·by_cases h2:j<l'.length
     ·obtain ⟨p,o,rfl⟩:=hA.at (by omega)
      have hc:=(hA.ext iJ).cellAt j (by omega);obtain ⟨p',o',rfl⟩:=hB.at (by omega);have hc':=(hB.ext iJ).cellAt j (by omega);go_wp2
      go_roundw
      case rel=>
       have gN:=gN.o;refine ⟨j+1,(q+limb l j+limb l' j)/4294967296,r++ [(q+limb l j+limb l' j) % 4294967296],by omega,(show _=_ by simp [hr.o]),hs.append (Small.one (Nat.mod_lt _ (by decide))),by omega,gN,HN.o _,iJ.setCell (Nat.le_refl _) _,?_,?_⟩<;>go_num
      case measure=>simp [intOf];omega
     ·have e2:=ae (iV (l:=l') (i:=j) (by omega))
      obtain ⟨p,o,rfl⟩:=hA.at (by omega);have hc:=(hA.ext iJ).cellAt j (by omega);go_wp2
      go_roundw
      case rel=>
       have gN:=gN.o;rw [e2.o,Nat.add_zero]at gN;refine ⟨j+1,(q+limb l j)/4294967296,r++ [(q+limb l j) % 4294967296],by omega,(show _=_ by simp [hr.o]),hs.append (Small.one (Nat.mod_lt _ (by decide))),by omega,gN,HN.o _,iJ.setCell (Nat.le_refl _) _,?_,?_⟩<;>go_num
      case measure=>simp [intOf];omega
    ·by_cases h2:j<l'.length
     ·exfalso;omega
     ·have e1:=ae (iV (l:=l) (i:=j) (by omega))
      have e2:=ae (iV (l:=l') (i:=j) (by omega));go_wp2
      go_roundw
      case rel=>
       have gN:=gN.o;rw [e1.o,Nat.add_zero]at gN;rw [e2.o,Nat.add_zero]at gN;rw [Nat.mod_eq_of_lt (show q<4294967296 by omega)]at gN;refine ⟨j+1,q/4294967296,r++ [q],by omega,(show _=_ by simp [hr.o]),hs.append (Small.one (by omega)),by omega,gN,HN.o _,iJ.setCell (Nat.le_refl _) _,?_,?_⟩<;>go_num
      case measure=>simp [intOf];omega
   ·obtain rfl:j=l.length+1:=by omega
    have HR:=ae (EP s1 s2 (M:=l.length) (by omega) (by omega) (by omega) hr.o hs hval.o kn.o);clear hval;go_wp2_with fail
    refine (dU _ _ _ _ _ HR.o).mono ?_;rintro e w' ⟨a',c',rfl,hR,hF,hX⟩;go_wp2
    go_ret;exact ⟨_,_,rfl,hR,hF.mono iJ.size,iJ.trans hX⟩
theorem LA {wr:World} {b:Nat} {T:TypeId} {l l' r:List Nat} {M q n m:Nat} (h1:l.length=M) (h2:l'.length≤M) (hM:M≤1099511627776) (hr:r.length=M) (hs:Small r) (hn:val l=n) (hm:val l'=m) (hle:m≤n)
 (hv:val r+val (l'.take M)=val (l.take M)+4294967296^M*q) (kn:aJ wr b T (fN (r++List.replicate (M-M) 0))):Raw wr (some ⟨b,0,none⟩) M M (n-m):=by
 rw [List.take_of_length_le (by omega),List.take_of_length_le (by omega),hn,hm]at hv;have hv2:=kJ hs;rw [hr]at hv2
 have q0:q=0:=by
  apply Nat.eq_zero_of_not_pos;intro h
  have:=Nat.le_mul_of_pos_right (4294967296^M) h;omega
 rw [q0,Nat.mul_zero,Nat.add_zero]at hv;rw [Nat.sub_self,List.replicate_zero,List.append_nil]at kn;have h4:=kn.limbs hs (by rw [hr];omega);rw [hr]at h4;exact ⟨r,hr,by omega,h4⟩
theorem rO (w:World) (a b:Option Addr) (k k' c c' n m:Nat) (ha:Raw w a k c n) (hb:Raw w b k' c' m) (hlt:n<m):
 Calls prog 228 #[.slice a k c,.slice b k' c'] w fun e w'=>e= .returned (.tuple #[.slice none 0 0,.bool false])∧Ext w w':=by
 have LB:kt n m= -1:=by unfold kt;rw [if_pos hlt]
 go_enter func228,ntmps228
 go_wp2_with fail
 refine (vq _ _ _ _ _ _ _ _ _ ha hb).mono ?_;rintro e w0 ⟨rfl,Sz⟩;rw [LB];go_wp2
 go_ret2
 exact ⟨rfl,Sz⟩
theorem zo (w:World) (a b:Option Addr) (k k' c c' n m:Nat) (ha:Raw w a k c n) (hb:Raw w b k' c' m) (hle:m≤n):
 Calls prog 228 #[.slice a k c,.slice b k' c'] w (IZ (n-m) w):=by
 have zY:=dJ hle;have LB:0≤kt n m:=by unfold kt;rw [if_neg (by omega)];split<;>decide
 go_enter func228,ntmps228
 go_wp2_with fail
 refine (vq _ _ _ _ _ _ _ _ _ ha hb).mono ?_;rintro e w0 ⟨rfl,Sz⟩;go_wp2_with fail
 refine (dU _ _ _ _ _ (ha.ext Sz)).mono ?_;rintro e w1 ⟨a1,c1,rfl,U0,Mj,MC⟩;go_wp2_with fail
 refine (dU _ _ _ _ _ (hb.ext (Sz.trans MC))).mono ?_;rintro e w2 ⟨b1,d1,rfl,wZ,hF2,MD⟩;have la:=U0.le;have lb:=wZ.le;have HX:=ae (Sz.trans (MC.trans MD));obtain ⟨l,hl,hv,hA⟩:=U0.ext MD;obtain ⟨l',hl',hv',hB⟩:=wZ;have s1:=hA.small;have s2:=hB.small;have HL:=ae hl;have rI:=ae hl';have HV:=ae hv;have IY:=ae hv'
 clear hl hl' hv hv';go_wp2_with (at_make;refine dF _ rfl _ _ 115 rfl 185 (.int .u32 0) 4 underlying115 Tryz.info_u32 rfl _ _ (len n) rfl rfl (by go_num) (by go_num) (by omega) (by omega) ?_;intro w3 fK hx1 hz1)
 go_loopw [7,8] (fun cy i wr=> ∃(j q:Nat) (r:List Nat),j≤len n∧Hid (r.length=j)∧Small r∧q≤1∧Hid (val r+val (l'.take j)=val (l.take j)+4294967296^j*q)∧Hid (aJ wr w2.heap.size 185 (fN (r++List.replicate (len n-j) 0)))∧Ext w2 wr∧cy= .int .u64 q∧i= .int .i64 j) (fun _ i _=>len n-(intOf i).toNat)
 case atStart=>exact ⟨0,0,[],Nat.zero_le _,rfl,Small.nil,Nat.zero_le _,rfl,by have:=fK.o;rw [gb]at this;exact this,hx1,rfl,rfl⟩
 case round=>
  obtain ⟨j,q,r,hj,hr,hs,hq,hval,kn,iJ,rfl,rfl⟩:=hrel;by_cases h0:j<len n
  ·obtain ⟨p,o,rfl⟩:=hA.at (by rw [HL.o];omega)
   have hc:=(hA.ext iJ).cellAt j (by rw [HL.o];omega);have hx:=eR s1 j;have hst:=vt kn.o hr.o h0;have BH:=kn.o.frozen j;have HN:=ae (fun x=>vr kn.o hr.o h0 x);by_cases h1:j<len m
   ·obtain ⟨p',o',rfl⟩:=hB.at (by rw [rI.o];omega)
    have hc':=(hB.ext iJ).cellAt j (by rw [rI.o];omega);have hy:=eR s2 j;by_cases h2:limb l j<q+limb l' j
    ·go_wp2
     go_roundw
     case rel=>
      have ov:=qh (L:=l) (M:=l') (q:=q) (q':=1) (z:=limb l j+4294967296-(q+limb l' j)) (i:=j) (by rw [HL.o];omega) hr.o hval.o (by rw [rI.o];omega) rfl rfl (by omega);refine ⟨j+1,1,r++ [_],by omega,(show _=_ by simp [hr.o]),hs.append (Small.one ?_),by omega,ov,?_,iJ.setCell (Nat.le_refl _) _,rfl,by go_num⟩
      ·omega
      ·have:=HN.o (limb l j+4294967296-(q+limb l' j))
       rw [show((limb l j+4294967296-(q+limb l' j):Nat):Int)=((limb l j:Nat):Int)+4294967296-((q:Nat)+(limb l' j:Nat):Int)from by omega]at this;exact this
     case measure=>simp [intOf];omega
    ·go_wp2
     go_roundw
     case rel=>
      have ov:=qh (L:=l) (M:=l') (q:=q) (q':=0) (z:=limb l j-(q+limb l' j)) (i:=j) (by rw [HL.o];omega) hr.o hval.o (by rw [rI.o];omega) rfl rfl (by omega);refine ⟨j+1,0,r++ [_],by omega,(show _=_ by simp [hr.o]),hs.append (Small.one ?_),by omega,ov,?_,iJ.setCell (Nat.le_refl _) _,rfl,by go_num⟩
      ·omega
      ·have:=HN.o (limb l j-(q+limb l' j))
       rw [show((limb l j-(q+limb l' j):Nat):Int)=((limb l j:Nat):Int)-((q:Nat)+(limb l' j:Nat):Int)from by omega]at this;exact this
     case measure=>simp [intOf];omega
   ·have e1:limb l' j=0:=iV (by rw [rI.o];omega)
    have EY:=ae e1;clear e1
    by_cases h2:limb l j<q
    ·go_wp2
     go_roundw
     case rel=>
      have ov:=qh (L:=l) (M:=l') (q:=q) (q':=1) (z:=limb l j+4294967296-(q)) (i:=j) (by rw [HL.o];omega) hr.o hval.o (by rw [rI.o];omega) rfl EY.o (by omega);refine ⟨j+1,1,r++ [_],by omega,(show _=_ by simp [hr.o]),hs.append (Small.one ?_),by omega,ov,?_,iJ.setCell (Nat.le_refl _) _,rfl,by go_num⟩
      ·omega
      ·have:=HN.o (limb l j+4294967296-(q))
       rw [show((limb l j+4294967296-(q):Nat):Int)=((limb l j:Nat):Int)+4294967296-((q:Nat):Int)from by omega]at this;exact this
     case measure=>simp [intOf];omega
    ·go_wp2
     go_roundw
     case rel=>
      have ov:=qh (L:=l) (M:=l') (q:=q) (q':=0) (z:=limb l j-(q)) (i:=j) (by rw [HL.o];omega) hr.o hval.o (by rw [rI.o];omega) rfl EY.o (by omega);refine ⟨j+1,0,r++ [_],by omega,(show _=_ by simp [hr.o]),hs.append (Small.one ?_),by omega,ov,?_,iJ.setCell (Nat.le_refl _) _,rfl,by go_num⟩
      ·omega
      ·have:=HN.o (limb l j-(q))
       rw [show((limb l j-(q):Nat):Int)=((limb l j:Nat):Int)-((q:Nat):Int)from by omega]at this;exact this
     case measure=>simp [intOf];omega
  ·obtain rfl:j=len n:=by omega
   have HR:=ae (LA HL.o (by rw [rI.o];exact zY) (by omega) hr.o hs HV.o IY.o hle hval.o kn.o);clear hval;go_wp2_with fail
   refine (dU _ _ _ _ _ HR.o).mono ?_;rintro e w' ⟨a',c',rfl,hR,hF,hX⟩;go_wp2
   go_ret2
   exact ⟨_,_,rfl,hR,hF.mono (Nat.le_trans HX.o.size iJ.size),HX.o.trans (iJ.trans hX)⟩
theorem uf {w:World} {b i:Nat} {T:TypeId} {P:List Nat} (h:aJ w b T (fN P)) (x:Nat) (v:Int) (hv:v=(x:Int)):aJ (w.setCell ⟨b,i,none⟩ (.int .u32 v)) b T (fN (P.set i x)):=by
 subst hv;have:=h.set i (.int .u32 (x:Nat));rwa [Ab]at this
theorem zq {w:World} {b i:Nat} {T:TypeId} {P:List Nat} (h:aJ w b T (fN P)) (hi:i<P.length):w.cell? ⟨b,i,none⟩=some (.int .u32 (limb P i:Nat)):=by
 rw [h.cell,m9 _ _ hi]
theorem I_ {q p x y:Nat} (hq:q<4294967296) (hp:p<4294967296) (hx:x<4294967296) (hy:y<4294967296):
 IntKind.u64.wrap ((q:Int)+IntKind.u64.wrap ((p:Int)+IntKind.u64.wrap ((x:Int)*(y:Int))))=((q+(x*y+p):Nat):Int)∧q+(x*y+p)<18446744073709551616:=by
 have nN:x*y≤4294967295*4294967295:=Nat.mul_le_mul (by omega) (by omega);rw [←Int.natCast_mul];generalize x*y=z at*;simp only [IntKind.wrap_u64];omega
theorem Ol (w:World) (a b:Option Addr) (k k' c c' n m:Nat) (ha:Raw w a k c n) (hb:Raw w b k' c' m) (h1:k<1000000000) (h2:k'<1000000000):
 Calls prog 229 #[.slice a k c,.slice b k' c'] w (oO (n*m) w):=by
 obtain ⟨l,hl,hv,hA⟩:=ha;obtain ⟨l',hl',hv',hB⟩:=hb;have s1:=hA.small;have s2:=hB.small;have HL:=ae hl;have rI:=ae hl';have HV:=ae hv;have IY:=ae hv'
 clear hl hl' hv hv';go_enter func229,ntmps229
 go_wp2_with (at_make;refine dF _ rfl _ _ 115 rfl 185 (.int .u32 0) 4 underlying115 Tryz.info_u32 rfl _ _ (k+k') rfl rfl (by go_num) (by go_num) (by omega) (by omega) ?_;intro w1 fK hx1 hz1)
 go_loopw [6] (fun i wr=> ∃(j:Nat) (P:List Nat),j≤k∧Hid (P.length=k+k')∧Small P∧Hid (val P=val (l.take j)*m)∧Hid (∀t,j+k'≤t→limb P t=0)∧Hid (aJ wr w.heap.size 185 (fN P))∧Ext w wr∧i= .int .i64 j) (fun i _=>k-(intOf i).toNat)
 case atStart=>exact ⟨0,List.replicate (k+k') 0,Nat.zero_le _,(show _=_ by simp),Small.replicate _,(show _=_ by simp [val,oI]),(show∀t,_ from fun t _=>vh _ _),by have:=fK.o;rw [gb]at this;exact this,hx1,rfl⟩
 case round=>
  obtain ⟨i,P,hi,hP,hs,hval,hz,kn,iJ,rfl⟩:=hrel;by_cases h0:i<k
  ·obtain ⟨pa,oa,rfl⟩:=hA.at (by rw [HL.o];omega)
   have hx:=eR s1 i;go_wp2
   obtain ⟨wo,rfl⟩: ∃wo:World,wo=wr:=⟨_,rfl⟩;go_loopw [7,8] (fun cy jj wr=> ∃(j q:Nat) (P':List Nat),j≤k'∧q<4294967296∧Hid (P'.length=k+k')∧Small P'∧Hid (val P'+4294967296^(i+j)*q=val P+4294967296^i*(limb l i*val (l'.take j)))∧Hid (∀t,i+j≤t→limb P' t=limb P t)∧Hid (aJ wr w.heap.size 185 (fN P'))∧Ext w wr∧cy= .int .u64 q∧jj= .int .i64 j) (fun _ jj _=>k'-(intOf jj).toNat)
   case atStart=>exact ⟨0,0,P,Nat.zero_le _,by omega,hP,hs,(show _=_ by simp [val]),(show∀t,_ from fun t _=>rfl),kn,iJ,rfl,rfl⟩
   case round=>
    obtain ⟨j,q,P',hj,hq,PY,hs',hval',hz',ya,ER,rfl,rfl⟩:=hrel;by_cases h3:j<k'
    ·obtain ⟨pb,ob,rfl⟩:=hB.at (by rw [rI.o];omega)
     have hc':=(hB.ext ER).cellAt j (by rw [rI.o];omega);have UM:=(hA.ext ER).cellAt i (by rw [HL.o];omega);have hy:=eR s2 j;have hp:=eR hs' (i+j);have hst:=zq (i:=i+j) ya.o (by rw [PY.o];omega);have BH:=ya.o.frozen (i+j);have HN:=ae (fun n x v hv=>uf (i:=i+j) (ya.o.ext ((Ext.refl _).drewN n)) x v hv);have HM:=ae (I_ hq hp hx hy);have g0:(0:Int)≤(i:Int)+(j:Int):=by omega
     have g1:(i:Int)+(j:Int)<(k:Int)+(k':Int):=by omega
     have g2:(0:Int)≤(i:Int):=by omega
     have g3:(i:Int)<(k:Int):=by omega
     have g4:(0:Int)≤(j:Int):=by omega
     have g5:(j:Int)<(k':Int):=by omega
     go_wp2
     go_quiet (fail)
     go_wp2
     refine ⟨?_,?_⟩
     ·have hm:=I0 (x:=limb l i) (q:=q) (P:=P) (by rw [rI.o];omega) (by rw [PY.o];omega) hval'.o
      have hM:=HM.o;rw [hM.1];refine ⟨j+1,(q+(limb l i*limb l' j+limb P' (i+j)))/4294967296,P'.set (i+j) ((q+(limb l i*limb l' j+limb P' (i+j))) % 4294967296),by omega,?_,(show _=_ by simp [PY.o]),hs'.set _ _ (Nat.mod_lt _ (by decide)),hm,(show∀t,_ from fun t ht=>by rw [sT (by omega),hz'.o t (by omega)]),?_,(ER.drewN _).setCell (Nat.le_refl _) _,?_,by go_num⟩
      ·clear hm;rw [Nat.div_lt_iff_lt_mul (by decide)];omega
      ·exact HN.o _ _ _ (by simp)
      ·simp
     ·simp [intOf];omega
    ·obtain rfl:j=k':=by omega
     have hst:=zq (i:=i+j) ya.o (by rw [PY.o];omega);have BH:=ya.o.frozen (i+j);have HN:=ae (uf (i:=i+j) ya.o q _ rfl);go_wp2
     go_roundw
     case rel=>
      refine ⟨i+1,P'.set (i+j) q,by omega,(show _=_ by simp [PY.o]),hs'.set _ _ hq,?_,?_,HN.o,ER.setCell (Nat.le_refl _) _,by go_num⟩
      ·show _=_
       have e1:=zf (l:=P') (k:=i+j) (by rw [PY.o];omega) q;rw [hz'.o _ (Nat.le_refl _),hz.o _ (Nat.le_refl _)]at e1;have e2:=hval'.o;rw [List.take_of_length_le (by rw [rI.o];exact Nat.le_refl _),IY.o]at e2;rw [dT (by rw [HL.o];omega),Nat.add_mul,←hval.o,Nat.mul_assoc];omega
      ·show∀t,_
       intro t ht;rw [sT (by omega),hz'.o t (by omega),hz.o t (by omega)]
     case measure=>simp [intOf];omega
  ·obtain rfl:i=k:=by omega
   have SA:Raw wr (some ⟨w.heap.size,0,none⟩) (i+k') (i+k') (n*m):=by
    have h3:=kn.o.limbs hs (by rw [hP.o];omega);rw [hP.o]at h3;refine ⟨P,hP.o,?_,h3⟩;rw [hval.o,List.take_of_length_le (by rw [HL.o];exact Nat.le_refl _),HV.o]
   have HR:=ae SA;clear SA
   go_wp2_with fail
   refine (dU _ _ _ _ _ HR.o).mono ?_;rintro e w' ⟨a',c',rfl,hR,hF,hX⟩;go_wp2
   go_ret;exact ⟨_,_,rfl,hR,hF.mono iJ.size,iJ.trans hX⟩
def gw (n:Nat):Nat:=if n=0 then 0 else n.log2+1
theorem DC:gw 0=0:=rfl
theorem vu {n:Nat} (h:0<n):gw n=gw (n/2)+1:=by
 unfold gw;rw [if_neg (by omega),Nat.log2_def];by_cases h2:2≤n
 ·rw [if_pos h2,if_neg (by omega)]
 ·rw [if_neg h2,if_pos (by omega)]
theorem lD (n:Nat):n<2^gw n:=by
 unfold gw;split
 ·omega
 ·exact Nat.lt_log2_self
theorem nI {n k:Nat} (h:n<2^k):gw n≤k:=by
 unfold gw;split
 ·omega
 ·rename_i h0
  have:=(Nat.log2_lt h0).2 h;omega
theorem BK {x y k:Nat} (hx:x<2^k) (hy:0<y):gw (x+2^k*y)=k+gw y:=by
 induction k generalizing x with
 |zero=>simp at hx;subst hx;simp
 |succ k ih=>
  have hp:0<2^(k+1)*y:=Nat.mul_pos (Nat.two_pow_pos _) hy;rw [vu (by omega)]
  have e:(x+2^(k+1)*y)/2=x/2+2^k*y:=by
   rw [Nat.pow_succ,Nat.mul_comm (2^k) 2,Nat.mul_assoc];omega
  rw [e,ih (by rw [Nat.pow_succ]at hx;omega)];omega
theorem w_ {l:List Nat} (hs:Small l) (h0:0<l.length) (ht:limb l (l.length-1)≠0):gw (val l)=32*(l.length-1)+gw (limb l (l.length-1)):=by
 have e:=jf l (l.length-1) (by omega);rw [List.drop_of_length_le (by omega)]at e;rw [e,pow_eq];have hv:=kJ (hs.take (l.length-1));rw [List.length_take,Nat.min_eq_left (by omega),pow_eq]at hv;have:val ([]:List Nat)=0:=rfl;rw [this,Nat.mul_zero,Nat.add_zero];exact BK hv (by omega)
theorem LC (w:World) (a:Option Addr) (k c n:Nat) (h:Raw w a k c n):
 Calls prog 225 #[.slice a k c] w fun e w'=>e= .returned (.int .i64 (gw n:Nat))∧Ext w w':=by
 go_enter func225,ntmps225
 go_wp2_with fail
 refine (dU _ _ _ _ _ h).mono ?_;rintro e w1 ⟨a1,c1,rfl,hR,hF,hX⟩;have la:=hR.le;by_cases h0:n=0
 ·subst h0
  have:len 0=0:=rfl;rw [this];go_wp2
  go_ret;exact ⟨rfl,hX⟩
 ·have hp:=mm.2 (Nat.pos_of_ne_zero h0)
  obtain ⟨l,hl,hv,hA⟩:=hR;obtain ⟨p,o,rfl⟩:=hA.at (by omega);have hc:=hA.cellAt (len n-1) (by omega);have hx:=eR hA.small (len n-1);have ht:=BB hA.small (by omega) (by rw [hv,hl]);have hb0:=w_ hA.small (by omega) ht;rw [hv,hl]at hb0;rw [hl]at ht;have HB:=ae hb0;have PO:gw n≤32*len n:=nI (by rw [←pow_eq];exact i9 n);clear hb0;have HL:=ae hl;have HV:=ae hv
  clear hl hv;have he:(((len n:Nat):Int)==0)=false:=by rw [beq_eq_false_iff_ne];omega
  go_wp2
  go_loop [3,4] (fun i v=> ∃(t x:Nat),t≤32*1099511627776∧x<4294967296∧Hid (gw n=t+gw x)∧i= .int .i64 t∧v= .int .u32 x) (fun _ v=>(intOf v).toNat)
  case atStart=>exact ⟨32*(len n-1),limb l (len n-1),by omega,hx,HB,by go_num,rfl⟩
  case round=>
   obtain ⟨t,x,SB,Kp,hb,rfl,rfl⟩:=hrel;by_cases hx0:0<x
   ·go_wp2
    go_round
    case rel=>
     have hb1:=hb.o;rw [vu hx0]at hb1;exact ⟨t+1,x/2,by omega,by omega,(show _=_ by omega),by go_num,by go_num⟩
    case measure=>simp [intOf];omega
   ·obtain rfl:x=0:=by omega
    go_wp2
    go_ret;have hb1:=hb.o;rw [DC,Nat.add_zero]at hb1;exact ⟨by rw [hb1];rfl,hX⟩
theorem BM (x:Nat) (hx:x<4294967296):bits BinOp.and IntKind.u32 (x:Int) 1=((x % 2:Nat):Int):=by
 have:=u32_and_nat x 1 hx (by decide);rw [Nat.and_one_is_mod]at this;exact this
theorem BN {l:List Nat} (hs:Small l) (i:Nat):val l/2^i % 2=limb l (i/32)/2^(i % 32) % 2:=by
 by_cases hlt:i/32<l.length
 ·have e:=jf l (i/32) hlt
  have hv:=kJ (hs.take (i/32));rw [List.length_take,Nat.min_eq_left (by omega),pow_eq]at hv;rw [pow_eq]at e
  have e1:val l/2^(32*(i/32))=limb l (i/32)+4294967296*val (l.drop (i/32+1)):=by
   rw [e,Nat.add_mul_div_left _ _ (Nat.two_pow_pos _),Nat.div_eq_of_lt hv,Nat.zero_add]
  have e2:2^i=2^(32*(i/32))*2^(i % 32):=by rw [←Nat.pow_add];congr 1;omega
  rw [e2,←Nat.div_div_eq_div_mul,e1];have hr:i % 32<32:=Nat.mod_lt _ (by decide);generalize i % 32=r at*
  have e3:4294967296=2^r*(2^(31-r)*2):=by
   rw [←Nat.pow_succ,←Nat.pow_add,show r+(31-r).succ=32 from by omega]
  rw [e3,Nat.mul_assoc,Nat.add_mul_div_left _ _ (Nat.two_pow_pos _),Nat.mul_comm (2^(31-r)) 2,Nat.mul_assoc,Nat.add_mul_mod_self_left]
 ·rw [iV (by omega),Nat.zero_div,Nat.div_eq_of_lt]
  have hv:=kJ hs;rw [pow_eq]at hv;exact Nat.lt_of_lt_of_le hv (Nat.pow_le_pow_right (by decide) (by omega))
theorem zt (w:World) (a:Option Addr) (k c n i:Nat) (h:Raw w a k c n) (hi:i<1000000000000):
 Calls prog 227 #[.slice a k c,.int .i64 (i:Nat)] w fun e w'=>e= .returned (.int .u32 ((n/2^i % 2:Nat)))∧w'=w:=by
 obtain ⟨l,rfl,rfl,hA⟩:=h;have h1:=hA.le;have h2:=hA.short;by_cases hlt:i/32<l.length
 ·obtain ⟨p,o,rfl⟩:=hA.at (by omega)
  have hc:=hA.cellAt (i/32) hlt;have hx:=eR hA.small (i/32);have HB:=ae (BN hA.small i);have hq:limb l (i/32)/2^(i % 32)<4294967296:=Nat.lt_of_le_of_lt (Nat.div_le_self _ _) hx;have HQ:=ae hq;clear hq
  go_enter func227,ntmps227
  go_wp2
  go_ret;refine ⟨?_,rfl⟩;have e:=BM _ HQ.o;rw [HB.o];refine cS ?_;rw [←e];simp
 ·have HB:=ae (BN hA.small i)
  have HZ:=ae (iV (l:=l) (i:=i/32) (by omega));go_enter func227,ntmps227
  go_wp2
  go_ret;refine ⟨?_,rfl⟩;rw [HB.o,HZ.o,Nat.zero_div];rfl
theorem tG (w:World) (a b:Option Addr) (k k' c c' n m:Nat) (ha:Raw w a k c n) (hb:Raw w b k' c' m) (hm:0<m) (SC:n<18446744073709551616) (SD:m<18446744073709551616):
 Calls prog 207 #[.slice a k c,.slice b k' c'] w (rJ (n/m) (n % m) w):=by
 have pm:=mm.2 hm;have Oi:(((len m:Nat):Int)==0)=false:=by rw [beq_eq_false_iff_ne];omega
 go_enter func207,ntmps207
 go_wp2_with fail
 refine (dU _ _ _ _ _ hb).mono ?_;rintro e w1 ⟨a1,c1,rfl,r1,f1,x1⟩;go_wp2_with fail
 refine (jr _ _ _ _ _ (ha.ext x1) SC).mono ?_;rintro e w2 ⟨rfl,x2⟩;go_wp2_with fail
 refine (jr _ _ _ _ _ (r1.ext x2) SD).mono ?_;rintro e w3 ⟨rfl,x3⟩;have hx:=(x1.trans x2).trans x3;have hq:n/m≤n:=Nat.div_le_self _ _;have hr:n % m<m:=Nat.mod_lt _ hm;have PJ:((m:Nat):Int)≠0:=by omega
 have GY:(((m:Nat):Int)==0)=false:=by rw [beq_eq_false_iff_ne];omega
 have h1m:(1:Int)≤(m:Int):=by omega
 have hqb:n/m<18446744073709551616:=Nat.lt_of_le_of_lt hq SC;have hrb:n % m<18446744073709551616:=Nat.lt_trans hr SD
 have e1:IntKind.u64.wrap ((n:Int)/(m:Int))=((n/m:Nat):Int):=by
  rw [IntKind.wrap_u64,←Int.natCast_ediv];generalize n/m=z at*;omega
 have e2:(n:Int).tmod (m:Int)=((n % m:Nat):Int):=by
  rw [Int.tmod_eq_emod_of_nonneg (by omega),Int.natCast_emod]
 generalize MG:n/m=qq at*;generalize Ge:n % m=rr at*;have HQ:=ae MG;have HR:=ae Ge;clear MG Ge
 have lB:True:=trivial;go_wp2_with fail
 go_region_with (first
  |(go_at_call 176;have _t:=lB;refine (jq _ _ (by assumption)).mono ?_;rintro e w4 ⟨a4,c4,rfl,hr4,PZ,j8⟩;clear lB _t)
  |(go_at_call 176;refine (jq _ _ (by assumption)).mono ?_;rintro e w5 ⟨a5,c5,rfl,LD,hf5,eY⟩))
 all_goals go_wp2
 all_goals go_ret3
 all_goals exact ⟨a4,c4,a5,c5,rfl,hr4.ext eY,PZ.mono hx.size,LD,hf5.mono (Nat.le_trans hx.size j8.size),(hx.drew.trans j8).trans eY⟩
theorem DD (x i:Nat) (hx:x<4294967296) (hi:i<32):bits BinOp.or IntKind.u32 (x:Int) (2^i % 4294967296)=((x|||2^i:Nat):Int):=by
 have hp:2^i<4294967296:=Nat.pow_lt_pow_right (a:=2) (by decide) hi;have h:=u32_or_nat x (2^i) hx hp
 have e:((2:Int)^i % 4294967296)=((2^i:Nat):Int):=by
  rw [show((2:Int)^i)=((2^i:Nat):Int)from by rw [Int.natCast_pow];rfl];generalize 2^i=z at*;omega
 rw [e];exact h
theorem U1 (q p:Nat):q*(p*2)=2*q*p:=by rw [Nat.mul_comm p 2,←Nat.mul_assoc,Nat.mul_comm q 2]
theorem LF {z m:Nat} (h:z<m):len (z+z)≤len m+1:=by
 rw [cj,Nat.pow_succ];have h8:=i9 m;generalize 4294967296^len m=P at h8⊢;omega
theorem nJ (w:World):Raw (w.alloc (Obj.cells #[.int .u32 1] 185)) (some ⟨w.heap.size,0,none⟩) 1 1 1:=by
 have ha:=aJ.alloc w 185 (fN [1]);exact ⟨[1],rfl,rfl,ha.limbs (Small.one (by decide)) (by simp)⟩
def I' (n m k qb:Nat) (wq w2:World) (s5 P8:Value) (wr:World):Prop:=
 ∃(j:Nat) (a5:Option Addr) (c5:Nat) (Q:List Nat),j≤gw n∧Raw wr a5 (len (n/2^j % m)) c5 (n/2^j % m)∧Fr wq.heap.size a5∧Q.length=k∧Small Q∧val Q=n/2^j/m*2^j∧aJ wr qb 185 (fN Q)∧Ext w2 wr∧wq.heap.size≤wr.heap.size∧s5= .slice a5 (len (n/2^j % m)) c5∧P8= .int .i64 ((j:Int)-1)
theorem tH (w:World) (a b:Option Addr) (k k' c c' n m:Nat) (ha:Raw w a k c n) (hb:Raw w b k' c' m) (hm:0<m) (hk:k<900000000) (vV:k'<900000000) (X7: ¬(n<18446744073709551616∧m<18446744073709551616)):
 Calls prog 207 #[.slice a k c,.slice b k' c'] w (rJ (n/m) (n % m) w):=by
 have pm:=mm.2 hm;have zY:=hb.cj;have PE:=ha.cj;have Oi:(((len m:Nat):Int)==0)=false:=by rw [beq_eq_false_iff_ne];omega
 have PO:gw n≤32*len n:=nI (by rw [←pow_eq];exact i9 n);go_enter func207,ntmps207
 go_wp2_with fail
 refine (dU _ _ _ _ _ hb).mono ?_;rintro e w1 ⟨a1,c1,rfl,r1,f1,x1⟩;go_upto_region 4 with fail
 go_cut [7,8] (fun s7 s8 wx=> ∃(x:Nat) (sm:Bool),s7= .int .u64 x∧s8= .bool sm∧Hid (sm=true→n<18446744073709551616)∧Ext w1 wx)
 case first=>
  by_cases hn:n<18446744073709551616
  ·go_wp2_with fail
   refine (jr _ _ _ _ _ (ha.ext x1) hn).mono ?_;rintro e w2 ⟨rfl,x2⟩;go_wp2_with fail
   go_meet
   exact ⟨n,true,rfl,rfl,(show _→_ from fun _=>hn),x2⟩
  ·go_wp2_with fail
   refine (qu _ _ _ _ _ (ha.ext x1) (by omega)).mono ?_;rintro e w2 ⟨rfl,x2⟩;go_wp2_with fail
   go_meet
   exact ⟨0,false,rfl,rfl,(show _→_ from fun h=>by cases h),x2⟩
 case rest=>
  obtain ⟨x,sm,rfl,rfl,hsm,x2⟩:=hcut;go_upto_region 5 with fail
  go_cut [9,10] (fun s9 s10 wx=> ∃(x:Nat) (sm:Bool),s9= .int .u64 x∧s10= .bool sm∧Hid (sm=true→m<18446744073709551616)∧Ext w1 wx)
  case first=>
   by_cases Ef:m<18446744073709551616
   ·go_wp2_with fail
    refine (jr _ _ _ _ _ (r1.ext x2) Ef).mono ?_;rintro e w2 ⟨rfl,x3⟩;go_wp2_with fail
    go_meet
    exact ⟨m,true,rfl,rfl,(show _→_ from fun _=>Ef),x2.trans x3⟩
   ·go_wp2_with fail
    refine (qu _ _ _ _ _ (r1.ext x2) (by omega)).mono ?_;rintro e w2 ⟨rfl,x3⟩;go_wp2_with fail
    go_meet
    exact ⟨0,false,rfl,rfl,(show _→_ from fun h=>by cases h),x2.trans x3⟩
  case rest=>
   obtain ⟨x',ft,rfl,rfl,hft,x3⟩:=hcut;go_upto_region 6 with fail
   go_cut [32] (fun s32 wx=>s32= .bool false∧Ext w1 wx)
   case first=>
    cases sm with
    |true=>
     cases ft with
     |true=>exact absurd ⟨hsm.o rfl,hft.o rfl⟩ X7
     |false=>
      go_wp2_with fail
      go_meet
      exact ⟨rfl,x3⟩
    |false=>
     go_wp2_with fail
     go_meet
     exact ⟨rfl,x3⟩
   case rest=>
    obtain ⟨rfl,x4⟩:=hcut;clear x2 x3 hsm hft;obtain ⟨w4,rfl⟩: ∃w4:World,w4=wc:=⟨_,rfl⟩;have SE:=ha.ext (x1.trans x4);go_wp2_with (at_make;refine dF _ rfl _ _ 115 rfl 185 (.int .u32 0) 4 underlying115 Tryz.info_u32 rfl _ _ k rfl rfl (by go_num) (by go_num) (by omega) (by omega) ?_;intro w5 hw5 eY Rm)
    refine (LC _ _ _ _ _ (SE.ext eY)).mono ?_;rintro e w6 ⟨rfl,x6⟩;go_wp2_with fail
    have SF:val (List.replicate k 0)=n/2^gw n/m*2^gw n:=by
     rw [oI,Nat.div_eq_of_lt (lD n),Nat.zero_div,Nat.zero_mul]
    have Om:n/2^gw n % m=0:=by rw [Nat.div_eq_of_lt (lD n),Nat.zero_mod]
    have HS:Hid (I' n m k w4.heap.size w5 w4 (.slice none 0 0) (.int .i64 ((gw n:Int)-1)) w6):=
     ⟨gw n,none,0,List.replicate k 0,Nat.le_refl _,by rw [Om];exact Raw.nil _,Fr.none _,by simp,Small.replicate _,SF,aJ.ext (by have:=hw5.o;rwa [gb]at this) x6,eY.trans x6,x6.size,by rw [Om];rfl,rfl⟩
    have rB:=r1.ext x4;have SG:=Rm.o;have Wx:=ae SG;clear SF Om hw5 Rm SG x6;go_loopw [5,11] (fun s5 P8 wr=>I' n m k w4.heap.size w5 w4 s5 P8 wr) (fun _ P8 _=>(intOf P8+1).toNat)
    case atStart=>exact HS.o
    case round=>
     obtain ⟨j,a5,c5,Q,hj,rR,fR,Sp,MH,hQV,SH,rP,U4,rfl,rfl⟩:=hrel;have Ks:=ae Sp;have MI:=ae hQV;have Oo:=ae SH
     clear Sp hQV SH;by_cases h0:0<j
     ·obtain ⟨i,rfl⟩: ∃i,j=i+1:=⟨j-1,by omega⟩
      rw [show(((i+1:Nat):Int)-1)=(i:Int)from by omega];have hik:i/32<k:=by omega
      have Ka:=ae (Lz MH MI.o (by rw [Ks.o];exact hik));have GZ:=ae (DD (limb Q (i/32)) (i % 32) (eR MH _) (Nat.mod_lt _ (by decide)));have hlx:=eR MH (i/32);have G1:=Gd n i;have MJ:=Nat.mod_lt (n/2^(i+1)) hm;have hlR:=dJ (Nat.le_of_lt MJ)
      have hl2:len (n/2^(i+1) % m+n/2^(i+1) % m)≤len m+1:=by
       exact LF MJ
      have g0:(0:Int)≤(i:Int):=by omega
      rcases Nat.mod_two_eq_zero_or_one (n/2^i)with hb0|hb1
      ·have Dj:=ae hb0
       obtain ⟨Kt,mA⟩:=EO (n/2^(i+1)) m 0 hm (by decide);rw [hb0,Nat.add_zero]at G1;simp only [Nat.add_zero]at Kt mA;rw [←G1]at Kt mA;clear hb0;by_cases ov:m≤2*(n/2^(i+1) % m)
       ·have Oq:=ae (Kt ov)
        have X8:=ae G1;clear Kt mA G1;generalize n/2^(i+1) % m=R at*;go_wp2_with fail
        refine (o9 _ _ _ _ _ _ _ _ _ rR rR (by omega) (by omega)).mono ?_;rintro e u1 ⟨a6,c6,rfl,r6,f6,x6⟩;have o_:=zt u1 _ _ _ _ i ((SE.ext rP).ext x6) (by omega);rw [Dj.o]at o_;go_wp2_with fail
        refine o_.mono ?_;rintro e u2 ⟨rfl,rfl⟩;clear o_;obtain ⟨u3,a8,c8,r8,xx,SJ,rfl,rfl,rfl⟩: ∃u3 a8 c8,Raw u3 a8 (len (R+R)) c8 (R+R)∧Ext wr u3∧Fr wr.heap.size a8∧u3=u2∧a8=a6∧c8=c6:=⟨u2,a6,c6,r6,x6,f6,rfl,rfl,rfl⟩;go_wp2_with fail
        refine (zo _ _ _ _ _ _ _ _ _ r8 ((rB.ext rP).ext xx) (by omega)).mono ?_;rintro e u4 ⟨a9,c9,rfl,r9,f9,x9⟩;have xw:=xx.trans x9;have Ot:=aJ.ext Oo.o xw;have hst:=zq (i:=i/32) Ot (by rw [Ks.o];omega);have BH:=Ot.frozen (i/32);have X9:=ae (fun v hv=>uf (i:=i/32) Ot (limb Q (i/32)|||2^(i % 32)) v hv);have SK:=f9.mono xx.size;go_wp2_with fail
        rw [GZ.o]
        go_roundw
        case rel=>
         have Ja:=Oq.o;have Ou:(R+R)-m=n/2^i % m:=by rw [Ja.2];omega
         rw [Ou]at r9⊢;have hz9:=xw.size;refine ⟨i,a9,c9,Q.set (i/32) (limb Q (i/32)|||2^(i % 32)),by omega,?_,SK.mono U4,by simp [Ks.o],MH.set _ _ Ka.o.1,?_,X9.o _ rfl,(rP.trans xw).setCell (Nat.le_refl _) _,?_,rfl,rfl⟩
         ·exact r9.setCell _ _ (fun x e=>by have h5:=SK x e;have h6:=Oo.o.lt;simp only;omega)
         ·rw [Ka.o.2,Ja.1]
          generalize n/2^(i+1)/m=q;rw [Nat.add_mul,Nat.pow_succ,Nat.one_mul,U1]
         ·simp [World.setCell];omega
        case measure=>simp [intOf]<;>omega
       ·have Oq:=ae (mA ov)
        have X8:=ae G1;clear Kt mA G1;generalize n/2^(i+1) % m=R at*;go_wp2_with fail
        refine (o9 _ _ _ _ _ _ _ _ _ rR rR (by omega) (by omega)).mono ?_;rintro e u1 ⟨a6,c6,rfl,r6,f6,x6⟩;have o_:=zt u1 _ _ _ _ i ((SE.ext rP).ext x6) (by omega);rw [Dj.o]at o_;go_wp2_with fail
        refine o_.mono ?_;rintro e u2 ⟨rfl,rfl⟩;clear o_;obtain ⟨u3,a8,c8,r8,xx,SJ,rfl,rfl,rfl⟩: ∃u3 a8 c8,Raw u3 a8 (len (R+R)) c8 (R+R)∧Ext wr u3∧Fr wr.heap.size a8∧u3=u2∧a8=a6∧c8=c6:=⟨u2,a6,c6,r6,x6,f6,rfl,rfl,rfl⟩;go_wp2_with fail
        refine (rO _ _ _ _ _ _ _ _ _ r8 ((rB.ext rP).ext xx) (by omega)).mono ?_;rintro e u4 ⟨rfl,x9⟩;have xw:=xx.trans x9;go_wp2_with fail
        go_roundw
        case rel=>
         have Ja:=Oq.o;have Ou:(R+R)=n/2^i % m:=by rw [Ja.2];omega
         rw [Ou]at r8⊢;refine ⟨i,a8,c8,Q,by omega,r8.ext x9,SJ.mono U4,Ks.o,MH,?_,aJ.ext Oo.o xw,rP.trans xw,by have:=xw.size;omega,rfl,rfl⟩;rw [MI.o,Ja.1];generalize n/2^(i+1)/m=q;rw [Nat.pow_succ,U1]
        case measure=>simp [intOf]<;>omega
      ·have Dj:=ae hb1
       obtain ⟨Kt,mA⟩:=EO (n/2^(i+1)) m 1 hm (by decide);rw [hb1]at G1;rw [←G1]at Kt mA;clear hb1;by_cases ov:m≤2*(n/2^(i+1) % m)+1
       ·have Oq:=ae (Kt ov)
        have X8:=ae G1;clear Kt mA G1;generalize n/2^(i+1) % m=R at*;go_wp2_with fail
        refine (o9 _ _ _ _ _ _ _ _ _ rR rR (by omega) (by omega)).mono ?_;rintro e u1 ⟨a6,c6,rfl,r6,f6,x6⟩;have o_:=zt u1 _ _ _ _ i ((SE.ext rP).ext x6) (by omega);rw [Dj.o]at o_;go_wp2_with fail
        refine o_.mono ?_;rintro e u2 ⟨rfl,rfl⟩;clear o_;go_wp2_with fail
        have r1:=nJ u2;have x7:Ext u2 (u2.alloc (Obj.cells #[.int .u32 1] 185)):=(Ext.refl _).alloc _;refine (o9 _ _ _ _ _ _ _ _ _ (r6.ext x7) r1 (by omega) (by omega)).mono ?_;rintro e u3 ⟨a8,c8,rfl,r8,f8,x8⟩;have xx:=(x6.trans x7).trans x8;have SJ:=f8.mono (Nat.le_trans x6.size x7.size);go_wp2_with fail
        refine (zo _ _ _ _ _ _ _ _ _ r8 ((rB.ext rP).ext xx) (by omega)).mono ?_;rintro e u4 ⟨a9,c9,rfl,r9,f9,x9⟩;have xw:=xx.trans x9;have Ot:=aJ.ext Oo.o xw;have hst:=zq (i:=i/32) Ot (by rw [Ks.o];omega);have BH:=Ot.frozen (i/32);have X9:=ae (fun v hv=>uf (i:=i/32) Ot (limb Q (i/32)|||2^(i % 32)) v hv);have SK:=f9.mono xx.size;go_wp2_with fail
        rw [GZ.o]
        go_roundw
        case rel=>
         have Ja:=Oq.o;have Ou:(R+R+1)-m=n/2^i % m:=by rw [Ja.2];omega
         rw [Ou]at r9⊢;have hz9:=xw.size;refine ⟨i,a9,c9,Q.set (i/32) (limb Q (i/32)|||2^(i % 32)),by omega,?_,SK.mono U4,by simp [Ks.o],MH.set _ _ Ka.o.1,?_,X9.o _ rfl,(rP.trans xw).setCell (Nat.le_refl _) _,?_,rfl,rfl⟩
         ·exact r9.setCell _ _ (fun x e=>by have h5:=SK x e;have h6:=Oo.o.lt;simp only;omega)
         ·rw [Ka.o.2,Ja.1]
          generalize n/2^(i+1)/m=q;rw [Nat.add_mul,Nat.pow_succ,Nat.one_mul,U1]
         ·simp [World.setCell];omega
        case measure=>simp [intOf]<;>omega
       ·have Oq:=ae (mA ov)
        have X8:=ae G1;clear Kt mA G1;generalize n/2^(i+1) % m=R at*;go_wp2_with fail
        refine (o9 _ _ _ _ _ _ _ _ _ rR rR (by omega) (by omega)).mono ?_;rintro e u1 ⟨a6,c6,rfl,r6,f6,x6⟩;have o_:=zt u1 _ _ _ _ i ((SE.ext rP).ext x6) (by omega);rw [Dj.o]at o_;go_wp2_with fail
        refine o_.mono ?_;rintro e u2 ⟨rfl,rfl⟩;clear o_;go_wp2_with fail
        have r1:=nJ u2;have x7:Ext u2 (u2.alloc (Obj.cells #[.int .u32 1] 185)):=(Ext.refl _).alloc _;refine (o9 _ _ _ _ _ _ _ _ _ (r6.ext x7) r1 (by omega) (by omega)).mono ?_;rintro e u3 ⟨a8,c8,rfl,r8,f8,x8⟩;have xx:=(x6.trans x7).trans x8;have SJ:=f8.mono (Nat.le_trans x6.size x7.size);go_wp2_with fail
        refine (rO _ _ _ _ _ _ _ _ _ r8 ((rB.ext rP).ext xx) (by omega)).mono ?_;rintro e u4 ⟨rfl,x9⟩;have xw:=xx.trans x9;go_wp2_with fail
        go_roundw
        case rel=>
         have Ja:=Oq.o;have Ou:(R+R+1)=n/2^i % m:=by rw [Ja.2];omega
         rw [Ou]at r8⊢;refine ⟨i,a8,c8,Q,by omega,r8.ext x9,SJ.mono U4,Ks.o,MH,?_,aJ.ext Oo.o xw,rP.trans xw,by have:=xw.size;omega,rfl,rfl⟩;rw [MI.o,Ja.1];generalize n/2^(i+1)/m=q;rw [Nat.pow_succ,U1]
        case measure=>simp [intOf]<;>omega
     ·obtain rfl:j=0:=by omega
      have X_:=MI.o;rw [Nat.pow_zero,Nat.div_one,Nat.mul_one]at X_;rw [Nat.pow_zero,Nat.div_one]at rR⊢
      have SL:Raw wr (some ⟨w4.heap.size,0,none⟩) k k (n/m):=by
       have h3:=Oo.o.limbs MH (by rw [Ks.o];omega);rw [Ks.o]at h3;exact ⟨Q,Ks.o,X_,h3⟩
      have RQ:=ae SL;clear SL X_;go_wp2_with fail
      refine (dU _ _ _ _ _ RQ.o).mono ?_;rintro e u1 ⟨a6,c6,rfl,r6,f6,x6⟩;go_wp2_with fail
      refine (dU _ _ _ _ _ (rR.ext x6)).mono ?_;rintro e u2 ⟨a7,c7,rfl,r7,f7,x7⟩;go_wp2_with fail
      go_ret3
      have jc:=(x1.trans x4).trans rP;exact ⟨a6,c6,a7,c7,rfl,r6.ext x7,f6.mono jc.size,r7,f7.mono (Nat.le_trans jc.size x6.size),(jc.trans x6).trans x7⟩
theorem yb (w:World) (a b:Option Addr) (k k' c c' n m:Nat) (ha:Raw w a k c n) (hb:Raw w b k' c' m) (hm:0<m) (hk:k<900000000) (vV:k'<900000000):
 Calls prog 207 #[.slice a k c,.slice b k' c'] w (rJ (n/m) (n % m) w):=by
 by_cases h:n<18446744073709551616∧m<18446744073709551616
 ·exact tG w a b k k' c c' n m ha hb hm h.1 h.2
 ·exact tH w a b k k' c c' n m ha hb hm hk vV h
def Jb (g n m L:Nat) (w:World) (s0 s1:Value) (wr:World):Prop:=
 ∃(A B:Nat) (a b:Option Addr) (c c':Nat),B≤g∧Nat.gcd A B=Nat.gcd n m∧len A≤L∧len B≤L∧Raw wr a (len A) c A∧Raw wr b (len B) c' B∧Fr w.heap.size a∧Fr w.heap.size b∧Ext w wr∧s0= .slice a (len A) c∧s1= .slice b (len B) c'
theorem Ov (w:World) (a b:Option Addr) (k k' c c' n m:Nat) (ha:Raw w a k c n) (hb:Raw w b k' c' m) (hk:len n<900000000) (vV:len m<900000000):
 Calls prog 206 #[.slice a k c,.slice b k' c'] w (oO (Nat.gcd n m) w):=by
 go_enter func206,ntmps206
 go_wp2_with fail
 refine (dU _ _ _ _ _ ha).mono ?_;rintro e w1 ⟨a1,c1,rfl,r1,f1,x1⟩;go_wp2_with fail
 refine (dU _ _ _ _ _ (hb.ext x1)).mono ?_;rintro e w2 ⟨a2,c2,rfl,r2,f2,x2⟩;have HS:Hid (Jb m n m 899999999 w (.slice a1 (len n) c1) (.slice a2 (len m) c2) w2):=⟨n,m,a1,a2,c1,c2,Nat.le_refl _,rfl,by omega,by omega,r1.ext x2,r2,f1,f2.mono x1.size,x1.trans x2,rfl,rfl⟩;clear r1 r2 f1 f2 x1 x2;go_wp2_with fail
 go_loopg [0,1] m (fun g s0 s1 wr=>Jb g n m 899999999 w s0 s1 wr)
 case atStart=>exact HS.o
 case round=>
  obtain ⟨A,B,a,b,c,c',hg,SM,hlA,hlB,rA,rB,fA,fB,hx,rfl,rfl⟩:=hrel;have HGC:=ae SM;clear SM;by_cases hB:B=0
  ·subst hB
   rw [uh];go_wp2_with fail
   go_ret;have hg0:=HGC.o;rw [Nat.gcd_zero_right]at hg0;rw [←hg0];exact ⟨_,_,rfl,rA,fA,hx⟩
  ·have pB:=mm.2 (Nat.pos_of_ne_zero hB)
   go_wp2_with fail
   refine (yb _ _ _ _ _ _ _ _ _ rA rB (Nat.pos_of_ne_zero hB) (by omega) (by omega)).mono ?_;rintro e w2 ⟨a2,c2,a3,c3,rfl,r2,f2,r3,f3,x2⟩;have hlt:=Nat.mod_lt A (Nat.pos_of_ne_zero hB);have hl3:=dJ (Nat.le_of_lt hlt);go_wp2_with fail
   go_roundg (A % B)
   case measure=>omega
   case rel=>exact ⟨B,A % B,b,a3,c',c3,Nat.le_refl _,by rw [←HGC.o,Nat.gcd_comm B,←Nat.gcd_rec,Nat.gcd_comm],hlB,by omega,rB.ext x2,r3,fB,f3.mono hx.size,hx.trans x2,rfl,rfl⟩
end Go.Proofs.YtkpngkdgphojlaaGreat
