/- Texts of the proof. -/
import Derived.Test.YtkpngkdgphojlaaGreatCf49
set_option linter.all false
set_option maxHeartbeats 4000000
set_option maxRecDepth 100000
namespace Go.Proofs.YtkpngkdgphojlaaGreat
open Go.Proofs.Tryz
open Go.RowKit
theorem Ms {wr:World} {b:Nat} {T:TypeId} {l l' r:List Nat} {M q n m:Nat} (h1:l.length=M) (h2:l'.length≤M) (hM:M≤1099511627776) (hr:r.length=M) (hs:Small r) (hn:val l=n) (hm:val l'=m) (hle:m≤n)
 (hv:val r+val (l'.take M)=val (l.take M)+4294967296^M*q) (di:aQ wr b T (cV (r++List.replicate (M-M) 0))):Raw wr (some ⟨b,0,none⟩) M M (n-m):=by
 rw [List.take_of_length_le (by omega),List.take_of_length_le (by omega),hn,hm]at hv;have hv2:=jh hs;rw [hr]at hv2
 have q0:q=0:=by
  apply Nat.eq_zero_of_not_pos;intro h
  have:=Nat.le_mul_of_pos_right (4294967296^M) h;omega
 rw [q0,Nat.mul_zero,Nat.add_zero]at hv;rw [Nat.sub_self,List.replicate_zero,List.append_nil]at di;have h4:=di.limbs hs (by rw [hr];omega);rw [hr]at h4;exact ⟨r,hr,by omega,h4⟩
theorem tF (w:World) (a b:Option Addr) (k k' c c' n m:Nat) (ha:Raw w a k c n) (hb:Raw w b k' c' m) (hlt:n<m):
 Calls prog 228 #[.slice a k c,.slice b k' c'] w fun e w'=>e= .returned (.tuple #[.slice none 0 0,.bool false])∧Ext w w':=by
 have ur:fc n m= -1:=by unfold fc;rw [if_pos hlt]
 go_enter func228,ntmps228
 go_wp2_with fail
 refine (wk _ _ _ _ _ _ _ _ _ ha hb).mono ?_;rintro e w0 ⟨rfl,rG⟩;rw [ur];go_wp2
 go_ret2
 exact ⟨rfl,rG⟩
theorem Ah (w:World) (a b:Option Addr) (k k' c c' n m:Nat) (ha:Raw w a k c n) (hb:Raw w b k' c' m) (hle:m≤n):
 Calls prog 228 #[.slice a k c,.slice b k' c'] w (vT (n-m) w):=by
 have wO:=cM hle;have ur:0≤fc n m:=by unfold fc;rw [if_neg (by omega)];split<;>decide
 go_enter func228,ntmps228
 go_wp2_with fail
 refine (wk _ _ _ _ _ _ _ _ _ ha hb).mono ?_;rintro e w0 ⟨rfl,rG⟩;go_wp2_with fail
 refine (eK _ _ _ _ _ (ha.ext rG)).mono ?_;rintro e w1 ⟨a1,c1,rfl,VS,Qe,Jh⟩;go_wp2_with fail
 refine (eK _ _ _ _ _ (hb.ext (rG.trans Jh))).mono ?_;rintro e w2 ⟨b1,d1,rfl,vO,hF2,Ji⟩;have la:=VS.le;have lb:=vO.le;have HX:=ae (rG.trans (Jh.trans Ji));obtain ⟨l,hl,hv,hA⟩:=VS.ext Ji;obtain ⟨l',hl',hv',hB⟩:=vO;have s1:=hA.small;have s2:=hB.small;have HL:=ae hl;have kn:=ae hl';have HV:=ae hv;have Cb:=ae hv'
 clear hl hl' hv hv';go_wp2_with (at_make;refine bO _ rfl _ _ 115 rfl 185 (.int .u32 0) 4 underlying115 Tryz.info_u32 rfl _ _ (len n) rfl rfl (by go_num) (by go_num) (by omega) (by omega) ?_;intro w3 gH hx1 hz1)
 go_loopw [7,8] (fun cy i wr=> ∃(j q:Nat) (r:List Nat),j≤len n∧Hid (r.length=j)∧Small r∧q≤1∧Hid (val r+val (l'.take j)=val (l.take j)+4294967296^j*q)∧Hid (aQ wr w2.heap.size 185 (cV (r++List.replicate (len n-j) 0)))∧Ext w2 wr∧cy= .int .u64 q∧i= .int .i64 j) (fun _ i _=>len n-(intOf i).toNat)
 case atStart=>exact ⟨0,0,[],Nat.zero_le _,rfl,Small.nil,Nat.zero_le _,rfl,by have:=gH.o;rw [cT]at this;exact this,hx1,rfl,rfl⟩
 case round=>
  obtain ⟨j,q,r,hj,hr,hs,hq,hval,di,dG,rfl,rfl⟩:=hrel;by_cases h0:j<len n
  ·obtain ⟨p,o,rfl⟩:=hA.at (by rw [HL.o];omega)
   have hc:=(hA.ext dG).cellAt j (by rw [HL.o];omega);have hx:=bN s1 j;have hst:=wu di.o hr.o h0;have rF:=di.o.frozen j;have HN:=ae (fun x=>wm di.o hr.o h0 x);by_cases h1:j<len m
   ·obtain ⟨p',o',rfl⟩:=hB.at (by rw [kn.o];omega)
    have hc':=(hB.ext dG).cellAt j (by rw [kn.o];omega);have hy:=bN s2 j;by_cases h2:limb l j<q+limb l' j
    ·go_wp2
     go_roundw
     case rel=>
      have kL:=mO (L:=l) (M:=l') (q:=q) (q':=1) (z:=limb l j+4294967296-(q+limb l' j)) (i:=j) (by rw [HL.o];omega) hr.o hval.o (by rw [kn.o];omega) rfl rfl (by omega);refine ⟨j+1,1,r++ [_],by omega,(show _=_ by simp [hr.o]),hs.append (Small.one ?_),by omega,kL,?_,dG.setCell (Nat.le_refl _) _,rfl,by go_num⟩
      ·omega
      ·have:=HN.o (limb l j+4294967296-(q+limb l' j))
       rw [show((limb l j+4294967296-(q+limb l' j):Nat):Int)=((limb l j:Nat):Int)+4294967296-((q:Nat)+(limb l' j:Nat):Int)from by omega]at this;exact this
     case measure=>simp [intOf];omega
    ·go_wp2
     go_roundw
     case rel=>
      have kL:=mO (L:=l) (M:=l') (q:=q) (q':=0) (z:=limb l j-(q+limb l' j)) (i:=j) (by rw [HL.o];omega) hr.o hval.o (by rw [kn.o];omega) rfl rfl (by omega);refine ⟨j+1,0,r++ [_],by omega,(show _=_ by simp [hr.o]),hs.append (Small.one ?_),by omega,kL,?_,dG.setCell (Nat.le_refl _) _,rfl,by go_num⟩
      ·omega
      ·have:=HN.o (limb l j-(q+limb l' j))
       rw [show((limb l j-(q+limb l' j):Nat):Int)=((limb l j:Nat):Int)-((q:Nat)+(limb l' j:Nat):Int)from by omega]at this;exact this
     case measure=>simp [intOf];omega
   ·have e1:limb l' j=0:=fF (by rw [kn.o];omega)
    have EY:=ae e1;clear e1
    by_cases h2:limb l j<q
    ·go_wp2
     go_roundw
     case rel=>
      have kL:=mO (L:=l) (M:=l') (q:=q) (q':=1) (z:=limb l j+4294967296-(q)) (i:=j) (by rw [HL.o];omega) hr.o hval.o (by rw [kn.o];omega) rfl EY.o (by omega);refine ⟨j+1,1,r++ [_],by omega,(show _=_ by simp [hr.o]),hs.append (Small.one ?_),by omega,kL,?_,dG.setCell (Nat.le_refl _) _,rfl,by go_num⟩
      ·omega
      ·have:=HN.o (limb l j+4294967296-(q))
       rw [show((limb l j+4294967296-(q):Nat):Int)=((limb l j:Nat):Int)+4294967296-((q:Nat):Int)from by omega]at this;exact this
     case measure=>simp [intOf];omega
    ·go_wp2
     go_roundw
     case rel=>
      have kL:=mO (L:=l) (M:=l') (q:=q) (q':=0) (z:=limb l j-(q)) (i:=j) (by rw [HL.o];omega) hr.o hval.o (by rw [kn.o];omega) rfl EY.o (by omega);refine ⟨j+1,0,r++ [_],by omega,(show _=_ by simp [hr.o]),hs.append (Small.one ?_),by omega,kL,?_,dG.setCell (Nat.le_refl _) _,rfl,by go_num⟩
      ·omega
      ·have:=HN.o (limb l j-(q))
       rw [show((limb l j-(q):Nat):Int)=((limb l j:Nat):Int)-((q:Nat):Int)from by omega]at this;exact this
     case measure=>simp [intOf];omega
  ·obtain rfl:j=len n:=by omega
   have HR:=ae (Ms HL.o (by rw [kn.o];exact wO) (by omega) hr.o hs HV.o Cb.o hle hval.o di.o);clear hval;go_wp2_with fail
   refine (eK _ _ _ _ _ HR.o).mono ?_;rintro e w' ⟨a',c',rfl,hR,hF,hX⟩;go_wp2
   go_ret2
   exact ⟨_,_,rfl,hR,hF.mono (Nat.le_trans HX.o.size dG.size),HX.o.trans (dG.trans hX)⟩
theorem FR {w:World} {b i:Nat} {T:TypeId} {P:List Nat} (h:aQ w b T (cV P)) (x:Nat) (v:Int) (hv:v=(x:Int)):aQ (w.setCell ⟨b,i,none⟩ (.int .u32 v)) b T (cV (P.set i x)):=by
 subst hv;have:=h.set i (.int .u32 (x:Nat));rwa [fo]at this
theorem Km {w:World} {b i:Nat} {T:TypeId} {P:List Nat} (h:aQ w b T (cV P)) (hi:i<P.length):w.cell? ⟨b,i,none⟩=some (.int .u32 (limb P i:Nat)):=by
 rw [h.cell,et _ _ hi]
def iA (n:Nat):Nat:=if n=0 then 0 else n.log2+1
theorem Es:iA 0=0:=rfl
theorem wA {n:Nat} (h:0<n):iA n=iA (n/2)+1:=by
 unfold iA;rw [if_neg (by omega),Nat.log2_def];by_cases h2:2≤n
 ·rw [if_pos h2,if_neg (by omega)]
 ·rw [if_neg h2,if_pos (by omega)]
theorem mQ (n:Nat):n<2^iA n:=by
 unfold iA;split
 ·omega
 ·exact Nat.lt_log2_self
theorem oP {n k:Nat} (h:n<2^k):iA n≤k:=by
 unfold iA;split
 ·omega
 ·rename_i h0
  have:=(Nat.log2_lt h0).2 h;omega
theorem Cw {x y k:Nat} (hx:x<2^k) (hy:0<y):iA (x+2^k*y)=k+iA y:=by
 induction k generalizing x with
 |zero=>simp at hx;subst hx;simp
 |succ k ih=>
  have hp:0<2^(k+1)*y:=Nat.mul_pos (Nat.two_pow_pos _) hy;rw [wA (by omega)]
  have e:(x+2^(k+1)*y)/2=x/2+2^k*y:=by
   rw [Nat.pow_succ,Nat.mul_comm (2^k) 2,Nat.mul_assoc];omega
  rw [e,ih (by rw [Nat.pow_succ]at hx;omega)];omega
theorem xL {l:List Nat} (hs:Small l) (h0:0<l.length) (ht:limb l (l.length-1)≠0):iA (val l)=32*(l.length-1)+iA (limb l (l.length-1)):=by
 have e:=iE l (l.length-1) (by omega);rw [List.drop_of_length_le (by omega)]at e;rw [e,pow_eq];have hv:=jh (hs.take (l.length-1));rw [List.length_take,Nat.min_eq_left (by omega),pow_eq]at hv;have:val ([]:List Nat)=0:=rfl;rw [this,Nat.mul_zero,Nat.add_zero];exact Cw hv (by omega)
theorem Mt (w:World) (a:Option Addr) (k c n:Nat) (h:Raw w a k c n):
 Calls prog 225 #[.slice a k c] w fun e w'=>e= .returned (.int .i64 (iA n:Nat))∧Ext w w':=by
 go_enter func225,ntmps225
 go_wp2_with fail
 refine (eK _ _ _ _ _ h).mono ?_;rintro e w1 ⟨a1,c1,rfl,hR,hF,hX⟩;have la:=hR.le;by_cases h0:n=0
 ·subst h0
  have:len 0=0:=rfl;rw [this];go_wp2
  go_ret;exact ⟨rfl,hX⟩
 ·have hp:=gj.2 (Nat.pos_of_ne_zero h0)
  obtain ⟨l,hl,hv,hA⟩:=hR;obtain ⟨p,o,rfl⟩:=hA.at (by omega);have hc:=hA.cellAt (len n-1) (by omega);have hx:=bN hA.small (len n-1);have ht:=lU hA.small (by omega) (by rw [hv,hl]);have hb0:=xL hA.small (by omega) ht;rw [hv,hl]at hb0;rw [hl]at ht;have HB:=ae hb0;have Ql:iA n≤32*len n:=oP (by rw [←pow_eq];exact ie n);clear hb0;have HL:=ae hl;have HV:=ae hv
  clear hl hv;have he:(((len n:Nat):Int)==0)=false:=by rw [beq_eq_false_iff_ne];omega
  go_wp2
  go_loop [3,4] (fun i v=> ∃(t x:Nat),t≤32*1099511627776∧x<4294967296∧Hid (iA n=t+iA x)∧i= .int .i64 t∧v= .int .u32 x) (fun _ v=>(intOf v).toNat)
  case atStart=>exact ⟨32*(len n-1),limb l (len n-1),by omega,hx,HB,by go_num,rfl⟩
  case round=>
   obtain ⟨t,x,JQ,KP,hb,rfl,rfl⟩:=hrel;by_cases hx0:0<x
   ·go_wp2
    go_round
    case rel=>
     have hb1:=hb.o;rw [wA hx0]at hb1;exact ⟨t+1,x/2,by omega,by omega,(show _=_ by omega),by go_num,by go_num⟩
    case measure=>simp [intOf];omega
   ·obtain rfl:x=0:=by omega
    go_wp2
    go_ret;have hb1:=hb.o;rw [Es,Nat.add_zero]at hb1;exact ⟨by rw [hb1];rfl,hX⟩
theorem Cx (x:Nat) (hx:x<4294967296):bits BinOp.and IntKind.u32 (x:Int) 1=((x % 2:Nat):Int):=by
 have:=u32_and_nat x 1 hx (by decide);rw [Nat.and_one_is_mod]at this;exact this
theorem Cy {l:List Nat} (hs:Small l) (i:Nat):val l/2^i % 2=limb l (i/32)/2^(i % 32) % 2:=by
 by_cases hlt:i/32<l.length
 ·have e:=iE l (i/32) hlt
  have hv:=jh (hs.take (i/32));rw [List.length_take,Nat.min_eq_left (by omega),pow_eq]at hv;rw [pow_eq]at e
  have e1:val l/2^(32*(i/32))=limb l (i/32)+4294967296*val (l.drop (i/32+1)):=by
   rw [e,Nat.add_mul_div_left _ _ (Nat.two_pow_pos _),Nat.div_eq_of_lt hv,Nat.zero_add]
  have e2:2^i=2^(32*(i/32))*2^(i % 32):=by rw [←Nat.pow_add];congr 1;omega
  rw [e2,←Nat.div_div_eq_div_mul,e1];have hr:i % 32<32:=Nat.mod_lt _ (by decide);generalize i % 32=r at*
  have e3:4294967296=2^r*(2^(31-r)*2):=by
   rw [←Nat.pow_succ,←Nat.pow_add,show r+(31-r).succ=32 from by omega]
  rw [e3,Nat.mul_assoc,Nat.add_mul_div_left _ _ (Nat.two_pow_pos _),Nat.mul_comm (2^(31-r)) 2,Nat.mul_assoc,Nat.add_mul_mod_self_left]
 ·rw [fF (by omega),Nat.zero_div,Nat.div_eq_of_lt]
  have hv:=jh hs;rw [pow_eq]at hv;exact Nat.lt_of_lt_of_le hv (Nat.pow_le_pow_right (by decide) (by omega))
theorem Ai (w:World) (a:Option Addr) (k c n i:Nat) (h:Raw w a k c n) (hi:i<1000000000000):
 Calls prog 227 #[.slice a k c,.int .i64 (i:Nat)] w fun e w'=>e= .returned (.int .u32 ((n/2^i % 2:Nat)))∧w'=w:=by
 obtain ⟨l,rfl,rfl,hA⟩:=h;have h1:=hA.le;have h2:=hA.short;by_cases hlt:i/32<l.length
 ·obtain ⟨p,o,rfl⟩:=hA.at (by omega)
  have hc:=hA.cellAt (i/32) hlt;have hx:=bN hA.small (i/32);have HB:=ae (Cy hA.small i);have hq:limb l (i/32)/2^(i % 32)<4294967296:=Nat.lt_of_le_of_lt (Nat.div_le_self _ _) hx;have HQ:=ae hq;clear hq
  go_enter func227,ntmps227
  go_wp2
  go_ret;refine ⟨?_,rfl⟩;have e:=Cx _ HQ.o;rw [HB.o];refine cd ?_;rw [←e];simp
 ·have HB:=ae (Cy hA.small i)
  have HZ:=ae (fF (l:=l) (i:=i/32) (by omega));go_enter func227,ntmps227
  go_wp2
  go_ret;refine ⟨?_,rfl⟩;rw [HB.o,HZ.o,Nat.zero_div];rfl
theorem ux (w:World) (a b:Option Addr) (k k' c c' n m:Nat) (ha:Raw w a k c n) (hb:Raw w b k' c' m) (hm:0<m) (Ma:n<18446744073709551616) (Mb:m<18446744073709551616):
 Calls prog 207 #[.slice a k c,.slice b k' c'] w (pj (n/m) (n % m) w):=by
 have pm:=gj.2 hm;have Nx:(((len m:Nat):Int)==0)=false:=by rw [beq_eq_false_iff_ne];omega
 go_enter func207,ntmps207
 go_wp2_with fail
 refine (eK _ _ _ _ _ hb).mono ?_;rintro e w1 ⟨a1,c1,rfl,r1,f1,x1⟩;go_wp2_with fail
 refine (j_ _ _ _ _ _ (ha.ext x1) Ma).mono ?_;rintro e w2 ⟨rfl,x2⟩;go_wp2_with fail
 refine (j_ _ _ _ _ _ (r1.ext x2) Mb).mono ?_;rintro e w3 ⟨rfl,x3⟩;have hx:=(x1.trans x2).trans x3;have hq:n/m≤n:=Nat.div_le_self _ _;have hr:n % m<m:=Nat.mod_lt _ hm;have UT:((m:Nat):Int)≠0:=by omega
 have VI:(((m:Nat):Int)==0)=false:=by rw [beq_eq_false_iff_ne];omega
 have h1m:(1:Int)≤(m:Int):=by omega
 have Zi:n/m<18446744073709551616:=Nat.lt_of_le_of_lt hq Ma;have Zk:n % m<18446744073709551616:=Nat.lt_trans hr Mb
 have e1:IntKind.u64.wrap ((n:Int)/(m:Int))=((n/m:Nat):Int):=by
  rw [IntKind.wrap_u64,←Int.natCast_ediv];generalize n/m=z at*;omega
 have e2:(n:Int).tmod (m:Int)=((n % m:Nat):Int):=by
  rw [Int.tmod_eq_emod_of_nonneg (by omega),Int.natCast_emod]
 generalize QK:n/m=qq at*;generalize KU:n % m=rr at*;have HQ:=ae QK;have HR:=ae KU;clear QK KU
 have fD:True:=trivial;go_wp2_with fail
 go_region_with (first
  |(go_at_call 176;have _t:=fD;refine (j9 _ _ (by assumption)).mono ?_;rintro e w4 ⟨a4,c4,rfl,hr4,FL,fl⟩;clear fD _t)
  |(go_at_call 176;refine (j9 _ _ (by assumption)).mono ?_;rintro e w5 ⟨a5,c5,rfl,JY,vQ,dY⟩))
 all_goals go_wp2
 all_goals go_ret3
 all_goals exact ⟨a4,c4,a5,c5,rfl,hr4.ext dY,FL.mono hx.size,JY,vQ.mono (Nat.le_trans hx.size fl.size),(hx.drew.trans fl).trans dY⟩
theorem Et (x i:Nat) (hx:x<4294967296) (hi:i<32):bits BinOp.or IntKind.u32 (x:Int) (2^i % 4294967296)=((x|||2^i:Nat):Int):=by
 have hp:2^i<4294967296:=Nat.pow_lt_pow_right (a:=2) (by decide) hi;have h:=u32_or_nat x (2^i) hx hp
 have e:((2:Int)^i % 4294967296)=((2^i:Nat):Int):=by
  rw [show((2:Int)^i)=((2^i:Nat):Int)from by rw [Int.natCast_pow];rfl];generalize 2^i=z at*;omega
 rw [e];exact h
theorem VT (q p:Nat):q*(p*2)=2*q*p:=by rw [Nat.mul_comm p 2,←Nat.mul_assoc,Nat.mul_comm q 2]
theorem Mu {z m:Nat} (h:z<m):len (z+z)≤len m+1:=by
 rw [dZ,Nat.pow_succ];have h8:=ie m;generalize 4294967296^len m=P at h8⊢;omega
theorem oQ (w:World):Raw (w.alloc (Obj.cells #[.int .u32 1] 185)) (some ⟨w.heap.size,0,none⟩) 1 1 1:=by
 have ha:=aQ.alloc w 185 (cV [1]);exact ⟨[1],rfl,rfl,ha.limbs (Small.one (by decide)) (by simp)⟩
def Kn (n m k qb:Nat) (wq w2:World) (s5 T9:Value) (wr:World):Prop:=
 ∃(j:Nat) (a5:Option Addr) (c5:Nat) (Q:List Nat),j≤iA n∧Raw wr a5 (len (n/2^j % m)) c5 (n/2^j % m)∧Fr wq.heap.size a5∧Q.length=k∧Small Q∧val Q=n/2^j/m*2^j∧aQ wr qb 185 (cV Q)∧Ext w2 wr∧wq.heap.size≤wr.heap.size∧s5= .slice a5 (len (n/2^j % m)) c5∧T9= .int .i64 ((j:Int)-1)
theorem uy (w:World) (a b:Option Addr) (k k' c c' n m:Nat) (ha:Raw w a k c n) (hb:Raw w b k' c' m) (hm:0<m) (hk:k<900000000) (NR:k'<900000000) (Aa: ¬(n<18446744073709551616∧m<18446744073709551616)):
 Calls prog 207 #[.slice a k c,.slice b k' c'] w (pj (n/m) (n % m) w):=by
 have pm:=gj.2 hm;have wO:=hb.dZ;have IE:=ha.dZ;have Nx:(((len m:Nat):Int)==0)=false:=by rw [beq_eq_false_iff_ne];omega
 have Ql:iA n≤32*len n:=oP (by rw [←pow_eq];exact ie n);go_enter func207,ntmps207
 go_wp2_with fail
 refine (eK _ _ _ _ _ hb).mono ?_;rintro e w1 ⟨a1,c1,rfl,r1,f1,x1⟩;go_upto_region 4 with fail
 go_cut [7,8] (fun s7 s8 wx=> ∃(x:Nat) (sm:Bool),s7= .int .u64 x∧s8= .bool sm∧Hid (sm=true→n<18446744073709551616)∧Ext w1 wx)
 case first=>
  by_cases hn:n<18446744073709551616
  ·go_wp2_with fail
   refine (j_ _ _ _ _ _ (ha.ext x1) hn).mono ?_;rintro e w2 ⟨rfl,x2⟩;go_wp2_with fail
   go_meet
   exact ⟨n,true,rfl,rfl,(show _→_ from fun _=>hn),x2⟩
  ·go_wp2_with fail
   refine (rV _ _ _ _ _ (ha.ext x1) (by omega)).mono ?_;rintro e w2 ⟨rfl,x2⟩;go_wp2_with fail
   go_meet
   exact ⟨0,false,rfl,rfl,(show _→_ from fun h=>by cases h),x2⟩
 case rest=>
  obtain ⟨x,sm,rfl,rfl,hsm,x2⟩:=hcut;go_upto_region 5 with fail
  go_cut [9,10] (fun s9 s10 wx=> ∃(x:Nat) (sm:Bool),s9= .int .u64 x∧s10= .bool sm∧Hid (sm=true→m<18446744073709551616)∧Ext w1 wx)
  case first=>
   by_cases KH:m<18446744073709551616
   ·go_wp2_with fail
    refine (j_ _ _ _ _ _ (r1.ext x2) KH).mono ?_;rintro e w2 ⟨rfl,x3⟩;go_wp2_with fail
    go_meet
    exact ⟨m,true,rfl,rfl,(show _→_ from fun _=>KH),x2.trans x3⟩
   ·go_wp2_with fail
    refine (rV _ _ _ _ _ (r1.ext x2) (by omega)).mono ?_;rintro e w2 ⟨rfl,x3⟩;go_wp2_with fail
    go_meet
    exact ⟨0,false,rfl,rfl,(show _→_ from fun h=>by cases h),x2.trans x3⟩
  case rest=>
   obtain ⟨x',ft,rfl,rfl,hft,x3⟩:=hcut;go_upto_region 6 with fail
   go_cut [32] (fun s32 wx=>s32= .bool false∧Ext w1 wx)
   case first=>
    cases sm with
    |true=>
     cases ft with
     |true=>exact absurd ⟨hsm.o rfl,hft.o rfl⟩ Aa
     |false=>
      go_wp2_with fail
      go_meet
      exact ⟨rfl,x3⟩
    |false=>
     go_wp2_with fail
     go_meet
     exact ⟨rfl,x3⟩
   case rest=>
    obtain ⟨rfl,x4⟩:=hcut;clear x2 x3 hsm hft;obtain ⟨w4,rfl⟩: ∃w4:World,w4=wc:=⟨_,rfl⟩;have NH:=ha.ext (x1.trans x4);go_wp2_with (at_make;refine bO _ rfl _ _ 115 rfl 185 (.int .u32 0) 4 underlying115 Tryz.info_u32 rfl _ _ k rfl rfl (by go_num) (by go_num) (by omega) (by omega) ?_;intro w5 CR dY M8)
    refine (Mt _ _ _ _ _ (NH.ext dY)).mono ?_;rintro e w6 ⟨rfl,x6⟩;go_wp2_with fail
    have T_:val (List.replicate k 0)=n/2^iA n/m*2^iA n:=by
     rw [mg,Nat.div_eq_of_lt (mQ n),Nat.zero_div,Nat.zero_mul]
    have Px:n/2^iA n % m=0:=by rw [Nat.div_eq_of_lt (mQ n),Nat.zero_mod]
    have HS:Hid (Kn n m k w4.heap.size w5 w4 (.slice none 0 0) (.int .i64 ((iA n:Int)-1)) w6):=
     ⟨iA n,none,0,List.replicate k 0,Nat.le_refl _,by rw [Px];exact Raw.nil _,Fr.none _,by simp,Small.replicate _,T_,aQ.ext (by have:=CR.o;rwa [cT]at this) x6,dY.trans x6,x6.size,by rw [Px];rfl,rfl⟩
    have rB:=r1.ext x4;have Ua:=M8.o;have Xq:=ae Ua;clear T_ Px CR M8 Ua x6;go_loopw [5,11] (fun s5 T9 wr=>Kn n m k w4.heap.size w5 w4 s5 T9 wr) (fun _ T9 _=>(intOf T9+1).toNat)
    case atStart=>exact HS.o
    case round=>
     obtain ⟨j,a5,c5,Q,hj,rR,fR,hQL,NI,hQV,Ub,tG,VU,rfl,rfl⟩:=hrel;have KX:=ae hQL;have NJ:=ae hQV;have Py:=ae Ub
     clear hQL hQV Ub;by_cases h0:0<j
     ·obtain ⟨i,rfl⟩: ∃i,j=i+1:=⟨j-1,by omega⟩
      rw [show(((i+1:Nat):Int)-1)=(i:Int)from by omega];have hik:i/32<k:=by omega
      have Dj:=ae (Mr NI NJ.o (by rw [KX.o];exact hik));have HOR:=ae (Et (limb Q (i/32)) (i % 32) (bN NI _) (Nat.mod_lt _ (by decide)));have hlx:=bN NI (i/32);have H':=Hh n i;have hRm:=Nat.mod_lt (n/2^(i+1)) hm;have hlR:=cM (Nat.le_of_lt hRm)
      have hl2:len (n/2^(i+1) % m+n/2^(i+1) % m)≤len m+1:=by
       exact Mu hRm
      have g0:(0:Int)≤(i:Int):=by omega
      rcases Nat.mod_two_eq_zero_or_one (n/2^i)with hb0|hb1
      ·have H7:=ae hb0
       obtain ⟨G8,KY⟩:=FO (n/2^(i+1)) m 0 hm (by decide);rw [hb0,Nat.add_zero]at H';simp only [Nat.add_zero]at G8 KY;rw [←H']at G8 KY;clear hb0;by_cases kL:m≤2*(n/2^(i+1) % m)
       ·have Pz:=ae (G8 kL)
        have ZJ:=ae H';clear G8 KY H';generalize n/2^(i+1) % m=R at*;go_wp2_with fail
        refine (qj _ _ _ _ _ _ _ _ _ rR rR (by omega) (by omega)).mono ?_;rintro e u1 ⟨a6,c6,rfl,r6,f6,x6⟩;have ql:=Ai u1 _ _ _ _ i ((NH.ext tG).ext x6) (by omega);rw [H7.o]at ql;go_wp2_with fail
        refine ql.mono ?_;rintro e u2 ⟨rfl,rfl⟩;clear ql;obtain ⟨u3,a8,c8,r8,xx,Uc,rfl,rfl,rfl⟩: ∃u3 a8 c8,Raw u3 a8 (len (R+R)) c8 (R+R)∧Ext wr u3∧Fr wr.heap.size a8∧u3=u2∧a8=a6∧c8=c6:=⟨u2,a6,c6,r6,x6,f6,rfl,rfl,rfl⟩;go_wp2_with fail
        refine (Ah _ _ _ _ _ _ _ _ _ r8 ((rB.ext tG).ext xx) (by omega)).mono ?_;rintro e u4 ⟨a9,c9,rfl,r9,f9,x9⟩;have xw:=xx.trans x9;have PA:=aQ.ext Py.o xw;have hst:=Km (i:=i/32) PA (by rw [KX.o];omega);have rF:=PA.frozen (i/32);have ZK:=ae (fun v hv=>FR (i:=i/32) PA (limb Q (i/32)|||2^(i % 32)) v hv);have Ud:=f9.mono xx.size;go_wp2_with fail
        rw [HOR.o]
        go_roundw
        case rel=>
         have Ko:=Pz.o;have PB:(R+R)-m=n/2^i % m:=by rw [Ko.2];omega
         rw [PB]at r9⊢;have VV:=xw.size;refine ⟨i,a9,c9,Q.set (i/32) (limb Q (i/32)|||2^(i % 32)),by omega,?_,Ud.mono VU,by simp [KX.o],NI.set _ _ Dj.o.1,?_,ZK.o _ rfl,(tG.trans xw).setCell (Nat.le_refl _) _,?_,rfl,rfl⟩
         ·exact r9.setCell _ _ (fun x e=>by have h5:=Ud x e;have h6:=Py.o.lt;simp only;omega)
         ·rw [Dj.o.2,Ko.1]
          generalize n/2^(i+1)/m=q;rw [Nat.add_mul,Nat.pow_succ,Nat.one_mul,VT]
         ·simp [World.setCell];omega
        case measure=>simp [intOf]<;>omega
       ·have Pz:=ae (KY kL)
        have ZJ:=ae H';clear G8 KY H';generalize n/2^(i+1) % m=R at*;go_wp2_with fail
        refine (qj _ _ _ _ _ _ _ _ _ rR rR (by omega) (by omega)).mono ?_;rintro e u1 ⟨a6,c6,rfl,r6,f6,x6⟩;have ql:=Ai u1 _ _ _ _ i ((NH.ext tG).ext x6) (by omega);rw [H7.o]at ql;go_wp2_with fail
        refine ql.mono ?_;rintro e u2 ⟨rfl,rfl⟩;clear ql;obtain ⟨u3,a8,c8,r8,xx,Uc,rfl,rfl,rfl⟩: ∃u3 a8 c8,Raw u3 a8 (len (R+R)) c8 (R+R)∧Ext wr u3∧Fr wr.heap.size a8∧u3=u2∧a8=a6∧c8=c6:=⟨u2,a6,c6,r6,x6,f6,rfl,rfl,rfl⟩;go_wp2_with fail
        refine (tF _ _ _ _ _ _ _ _ _ r8 ((rB.ext tG).ext xx) (by omega)).mono ?_;rintro e u4 ⟨rfl,x9⟩;have xw:=xx.trans x9;go_wp2_with fail
        go_roundw
        case rel=>
         have Ko:=Pz.o;have PB:(R+R)=n/2^i % m:=by rw [Ko.2];omega
         rw [PB]at r8⊢;refine ⟨i,a8,c8,Q,by omega,r8.ext x9,Uc.mono VU,KX.o,NI,?_,aQ.ext Py.o xw,tG.trans xw,by have:=xw.size;omega,rfl,rfl⟩;rw [NJ.o,Ko.1];generalize n/2^(i+1)/m=q;rw [Nat.pow_succ,VT]
        case measure=>simp [intOf]<;>omega
      ·have H7:=ae hb1
       obtain ⟨G8,KY⟩:=FO (n/2^(i+1)) m 1 hm (by decide);rw [hb1]at H';rw [←H']at G8 KY;clear hb1;by_cases kL:m≤2*(n/2^(i+1) % m)+1
       ·have Pz:=ae (G8 kL)
        have ZJ:=ae H';clear G8 KY H';generalize n/2^(i+1) % m=R at*;go_wp2_with fail
        refine (qj _ _ _ _ _ _ _ _ _ rR rR (by omega) (by omega)).mono ?_;rintro e u1 ⟨a6,c6,rfl,r6,f6,x6⟩;have ql:=Ai u1 _ _ _ _ i ((NH.ext tG).ext x6) (by omega);rw [H7.o]at ql;go_wp2_with fail
        refine ql.mono ?_;rintro e u2 ⟨rfl,rfl⟩;clear ql;go_wp2_with fail
        have r1:=oQ u2;have x7:Ext u2 (u2.alloc (Obj.cells #[.int .u32 1] 185)):=(Ext.refl _).alloc _;refine (qj _ _ _ _ _ _ _ _ _ (r6.ext x7) r1 (by omega) (by omega)).mono ?_;rintro e u3 ⟨a8,c8,rfl,r8,f8,x8⟩;have xx:=(x6.trans x7).trans x8;have Uc:=f8.mono (Nat.le_trans x6.size x7.size);go_wp2_with fail
        refine (Ah _ _ _ _ _ _ _ _ _ r8 ((rB.ext tG).ext xx) (by omega)).mono ?_;rintro e u4 ⟨a9,c9,rfl,r9,f9,x9⟩;have xw:=xx.trans x9;have PA:=aQ.ext Py.o xw;have hst:=Km (i:=i/32) PA (by rw [KX.o];omega);have rF:=PA.frozen (i/32);have ZK:=ae (fun v hv=>FR (i:=i/32) PA (limb Q (i/32)|||2^(i % 32)) v hv);have Ud:=f9.mono xx.size;go_wp2_with fail
        rw [HOR.o]
        go_roundw
        case rel=>
         have Ko:=Pz.o;have PB:(R+R+1)-m=n/2^i % m:=by rw [Ko.2];omega
         rw [PB]at r9⊢;have VV:=xw.size;refine ⟨i,a9,c9,Q.set (i/32) (limb Q (i/32)|||2^(i % 32)),by omega,?_,Ud.mono VU,by simp [KX.o],NI.set _ _ Dj.o.1,?_,ZK.o _ rfl,(tG.trans xw).setCell (Nat.le_refl _) _,?_,rfl,rfl⟩
         ·exact r9.setCell _ _ (fun x e=>by have h5:=Ud x e;have h6:=Py.o.lt;simp only;omega)
         ·rw [Dj.o.2,Ko.1]
          generalize n/2^(i+1)/m=q;rw [Nat.add_mul,Nat.pow_succ,Nat.one_mul,VT]
         ·simp [World.setCell];omega
        case measure=>simp [intOf]<;>omega
       ·have Pz:=ae (KY kL)
        have ZJ:=ae H';clear G8 KY H';generalize n/2^(i+1) % m=R at*;go_wp2_with fail
        refine (qj _ _ _ _ _ _ _ _ _ rR rR (by omega) (by omega)).mono ?_;rintro e u1 ⟨a6,c6,rfl,r6,f6,x6⟩;have ql:=Ai u1 _ _ _ _ i ((NH.ext tG).ext x6) (by omega);rw [H7.o]at ql;go_wp2_with fail
        refine ql.mono ?_;rintro e u2 ⟨rfl,rfl⟩;clear ql;go_wp2_with fail
        have r1:=oQ u2;have x7:Ext u2 (u2.alloc (Obj.cells #[.int .u32 1] 185)):=(Ext.refl _).alloc _;refine (qj _ _ _ _ _ _ _ _ _ (r6.ext x7) r1 (by omega) (by omega)).mono ?_;rintro e u3 ⟨a8,c8,rfl,r8,f8,x8⟩;have xx:=(x6.trans x7).trans x8;have Uc:=f8.mono (Nat.le_trans x6.size x7.size);go_wp2_with fail
        refine (tF _ _ _ _ _ _ _ _ _ r8 ((rB.ext tG).ext xx) (by omega)).mono ?_;rintro e u4 ⟨rfl,x9⟩;have xw:=xx.trans x9;go_wp2_with fail
        go_roundw
        case rel=>
         have Ko:=Pz.o;have PB:(R+R+1)=n/2^i % m:=by rw [Ko.2];omega
         rw [PB]at r8⊢;refine ⟨i,a8,c8,Q,by omega,r8.ext x9,Uc.mono VU,KX.o,NI,?_,aQ.ext Py.o xw,tG.trans xw,by have:=xw.size;omega,rfl,rfl⟩;rw [NJ.o,Ko.1];generalize n/2^(i+1)/m=q;rw [Nat.pow_succ,VT]
        case measure=>simp [intOf]<;>omega
     ·obtain rfl:j=0:=by omega
      have Pg:=NJ.o;rw [Nat.pow_zero,Nat.div_one,Nat.mul_one]at Pg;rw [Nat.pow_zero,Nat.div_one]at rR⊢
      have J_:Raw wr (some ⟨w4.heap.size,0,none⟩) k k (n/m):=by
       have h3:=Py.o.limbs NI (by rw [KX.o];omega);rw [KX.o]at h3;exact ⟨Q,KX.o,Pg,h3⟩
      have RQ:=ae J_;clear J_ Pg;go_wp2_with fail
      refine (eK _ _ _ _ _ RQ.o).mono ?_;rintro e u1 ⟨a6,c6,rfl,r6,f6,x6⟩;go_wp2_with fail
      refine (eK _ _ _ _ _ (rR.ext x6)).mono ?_;rintro e u2 ⟨a7,c7,rfl,r7,f7,x7⟩;go_wp2_with fail
      go_ret3
      have uj:=(x1.trans x4).trans tG;exact ⟨a6,c6,a7,c7,rfl,r6.ext x7,f6.mono uj.size,r7,f7.mono (Nat.le_trans uj.size x6.size),(uj.trans x6).trans x7⟩
theorem yM (w:World) (a b:Option Addr) (k k' c c' n m:Nat) (ha:Raw w a k c n) (hb:Raw w b k' c' m) (hm:0<m) (hk:k<900000000) (NR:k'<900000000):
 Calls prog 207 #[.slice a k c,.slice b k' c'] w (pj (n/m) (n % m) w):=by
 by_cases h:n<18446744073709551616∧m<18446744073709551616
 ·exact ux w a b k k' c c' n m ha hb hm h.1 h.2
 ·exact uy w a b k k' c c' n m ha hb hm hk NR h
def Kp (g n m L:Nat) (w:World) (s0 s1:Value) (wr:World):Prop:=
 ∃(A B:Nat) (a b:Option Addr) (c c':Nat),B≤g∧Nat.gcd A B=Nat.gcd n m∧len A≤L∧len B≤L∧Raw wr a (len A) c A∧Raw wr b (len B) c' B∧Fr w.heap.size a∧Fr w.heap.size b∧Ext w wr∧s0= .slice a (len A) c∧s1= .slice b (len B) c'
theorem PC (w:World) (a b:Option Addr) (k k' c c' n m:Nat) (ha:Raw w a k c n) (hb:Raw w b k' c' m) (hk:len n<900000000) (NR:len m<900000000):
 Calls prog 206 #[.slice a k c,.slice b k' c'] w (iZ (Nat.gcd n m) w):=by
 go_enter func206,ntmps206
 go_wp2_with fail
 refine (eK _ _ _ _ _ ha).mono ?_;rintro e w1 ⟨a1,c1,rfl,r1,f1,x1⟩;go_wp2_with fail
 refine (eK _ _ _ _ _ (hb.ext x1)).mono ?_;rintro e w2 ⟨a2,c2,rfl,r2,f2,x2⟩;have HS:Hid (Kp m n m 899999999 w (.slice a1 (len n) c1) (.slice a2 (len m) c2) w2):=⟨n,m,a1,a2,c1,c2,Nat.le_refl _,rfl,by omega,by omega,r1.ext x2,r2,f1,f2.mono x1.size,x1.trans x2,rfl,rfl⟩;clear r1 r2 f1 f2 x1 x2;go_wp2_with fail
 go_loopg [0,1] m (fun g s0 s1 wr=>Kp g n m 899999999 w s0 s1 wr)
 case atStart=>exact HS.o
 case round=>
  obtain ⟨A,B,a,b,c,c',hg,Ka,hlA,VK,rA,rB,fA,fB,hx,rfl,rfl⟩:=hrel;have ND:=ae Ka;clear Ka;by_cases hB:B=0
  ·subst hB
   rw [kQ];go_wp2_with fail
   go_ret;have hg0:=ND.o;rw [Nat.gcd_zero_right]at hg0;rw [←hg0];exact ⟨_,_,rfl,rA,fA,hx⟩
  ·have pB:=gj.2 (Nat.pos_of_ne_zero hB)
   go_wp2_with fail
   refine (yM _ _ _ _ _ _ _ _ _ rA rB (Nat.pos_of_ne_zero hB) (by omega) (by omega)).mono ?_;rintro e w2 ⟨a2,c2,a3,c3,rfl,r2,f2,r3,f3,x2⟩;have hlt:=Nat.mod_lt A (Nat.pos_of_ne_zero hB);have MR:=cM (Nat.le_of_lt hlt);go_wp2_with fail
   go_roundg (A % B)
   case measure=>omega
   case rel=>exact ⟨B,A % B,b,a3,c',c3,Nat.le_refl _,by rw [←ND.o,Nat.gcd_comm B,←Nat.gcd_rec,Nat.gcd_comm],VK,by omega,rB.ext x2,r3,fB,f3.mono hx.size,hx.trans x2,rfl,rfl⟩
theorem kd (z:Int):aZ (decide (z<0)) z.natAbs=z:=by
 unfold aZ;by_cases h:z<0<;>simp [h]<;>omega
theorem ju (w:World) (s:Bool) (a:Option Addr) (k c n:Nat) (h:Raw w a k c n):
 Calls prog 175 #[.bool s,.slice a k c] w (bm (aZ s n) w):=by
 have hl:=h.dZ;have hle:=h.le;cases s with
 |false=>
  go_enter func175,ntmps175
  go_wp2_with fail
  obtain ⟨W,hW,x0,Z0,A0⟩:=aX w 117 [.bool false,.slice none 0 0];rw [←hW];clear hW;obtain ⟨aC,bf,bU,bV⟩:=ax A0 (Ext.refl _);have z0:=(A0.ext (Ext.refl _)).lt;refine (eK _ _ _ _ _ (h.ext x0)).mono ?_;rintro e w1 ⟨a1,c1,rfl,hr1,iX,hx1⟩;obtain ⟨aC,bf,bU,bV⟩:=ax A0 hx1;have z0:=(A0.ext hx1).lt;have fin:=bm.gw (s:=false) hr1 iX hx1 ⟨rfl,Ext.refl _⟩;rw [Bool.false_and]at fin;go_wp2_with fail
  exact bodyPost_ret (by simp [results,results175,go_sem,aC,bf]) rfl (bm.bh fin x0 (Touch.two _ (Nat.le_refl _) (by rw [Z0.o];omega) _ _))
 |true=>
  by_cases h0:0<len n
  ·have d0:decide ((0:Int)<((len n:Nat):Int))=true:=by simp;exact h0
   go_enter func175,ntmps175
   go_wp2_with fail
   obtain ⟨W,hW,x0,Z0,A0⟩:=aX w 117 [.bool false,.slice none 0 0];rw [←hW];clear hW;obtain ⟨aC,bf,bU,bV⟩:=ax A0 (Ext.refl _);have z0:=(A0.ext (Ext.refl _)).lt;refine (eK _ _ _ _ _ (h.ext x0)).mono ?_;rintro e w1 ⟨a1,c1,rfl,hr1,iX,hx1⟩;obtain ⟨aC,bf,bU,bV⟩:=ax A0 hx1;have z0:=(A0.ext hx1).lt;have fin:=bm.gw (s:=true) hr1 iX hx1 ⟨rfl,Ext.refl _⟩;rw [decide_eq_true h0,Bool.true_and]at fin;go_wp2_with fail
   exact bodyPost_ret (by simp [results,results175,go_sem,aC,bf]) rfl (bm.bh fin x0 (Touch.two _ (Nat.le_refl _) (by rw [Z0.o];omega) _ _))
  ·have d0:decide ((0:Int)<((len n:Nat):Int))=false:=by simp;omega
   go_enter func175,ntmps175
   go_wp2_with fail
   obtain ⟨W,hW,x0,Z0,A0⟩:=aX w 117 [.bool false,.slice none 0 0];rw [←hW];clear hW;obtain ⟨aC,bf,bU,bV⟩:=ax A0 (Ext.refl _);have z0:=(A0.ext (Ext.refl _)).lt;refine (eK _ _ _ _ _ (h.ext x0)).mono ?_;rintro e w1 ⟨a1,c1,rfl,hr1,iX,hx1⟩;obtain ⟨aC,bf,bU,bV⟩:=ax A0 hx1;have z0:=(A0.ext hx1).lt;have fin:=bm.gw (s:=true) hr1 iX hx1 ⟨rfl,Ext.refl _⟩;rw [decide_eq_false h0,Bool.and_false]at fin;go_wp2_with fail
   exact bodyPost_ret (by simp [results,results175,go_sem,aC,bf]) rfl (bm.bh fin x0 (Touch.two _ (Nat.le_refl _) (by rw [Z0.o];omega) _ _))
theorem rW (w:World) (s:Bool) (a:Option Addr) (k c n:Nat) (h:Raw w a k c n):
 Calls prog 170 #[.agg #[.bool s,.slice a k c]] w (bm (aZ s n) w):=by
 go_enter func170,ntmps170
 go_wp2_with fail
 obtain ⟨W,hW,x0,Z0,A0,A1⟩:=er w 117 [.bool s,.slice a k c] 117 [.bool false,.slice none 0 0];rw [←hW];clear hW;have aC:=ax A0 (Ext.refl _);have z0:=(A0.ext (Ext.refl _)).lt;obtain ⟨aM,bD,cj,cq⟩:=ax A1 (Ext.refl _);have z1:=(A1.ext (Ext.refl _)).lt;refine (ju _ s _ _ _ _ (h.ext x0)).mono ?_;rintro e w1 fin;obtain ⟨a1,c1,rfl,hr1,iX,hx1⟩:=id fin;have aC:=ax A0 hx1;have z0:=(A0.ext hx1).lt;obtain ⟨aM,bD,cj,cq⟩:=ax A1 hx1;have z1:=(A1.ext hx1).lt;go_wp2_with fail
 exact bodyPost_ret (by simp [results,results170,go_sem,aM,bD]) rfl (bm.bh fin x0 (Touch.two _ (by omega) (by rw [Z0.o];omega) _ _))
theorem Eu (w:World) (s:Bool) (a:Option Addr) (k c n:Nat) (h:Raw w a k c n):
 Calls prog 174 #[.agg #[.bool s,.slice a k c]] w (bm (-aZ s n) w):=by
 rw [←rL];go_enter func174,ntmps174
 go_wp2_with fail
 obtain ⟨W,hW,x0,Z0,A0,A1⟩:=er w 117 [.bool s,.slice a k c] 117 [.bool false,.slice none 0 0];rw [←hW];clear hW;have aC:=ax A0 (Ext.refl _);have z0:=(A0.ext (Ext.refl _)).lt;obtain ⟨aM,bD,cj,cq⟩:=ax A1 (Ext.refl _);have z1:=(A1.ext (Ext.refl _)).lt;refine (ju _ (!s) _ _ _ _ (h.ext x0)).mono ?_;rintro e w1 fin;obtain ⟨a1,c1,rfl,hr1,iX,hx1⟩:=id fin;have aC:=ax A0 hx1;have z0:=(A0.ext hx1).lt;obtain ⟨aM,bD,cj,cq⟩:=ax A1 hx1;have z1:=(A1.ext hx1).lt;go_wp2_with fail
 exact bodyPost_ret (by simp [results,results174,go_sem,aM,bD]) rfl (bm.bh fin x0 (Touch.two _ (by omega) (by rw [Z0.o];omega) _ _))
theorem PD (w:World) (s:Bool) (a:Option Addr) (k c n:Nat) (h:Raw w a k c n):
 Calls prog 209 #[.agg #[.bool s,.slice a k c]] w (bm ((n:Int)) w):=by
 rw [←fj];go_enter func209,ntmps209
 go_wp2_with fail
 obtain ⟨W,hW,x0,Z0,A0,A1⟩:=er w 117 [.bool s,.slice a k c] 117 [.bool false,.slice none 0 0];rw [←hW];clear hW;have aC:=ax A0 (Ext.refl _);have z0:=(A0.ext (Ext.refl _)).lt;obtain ⟨aM,bD,cj,cq⟩:=ax A1 (Ext.refl _);have z1:=(A1.ext (Ext.refl _)).lt;refine (ju _ false _ _ _ _ (h.ext x0)).mono ?_;rintro e w1 fin;obtain ⟨a1,c1,rfl,hr1,iX,hx1⟩:=id fin;have aC:=ax A0 hx1;have z0:=(A0.ext hx1).lt;obtain ⟨aM,bD,cj,cq⟩:=ax A1 hx1;have z1:=(A1.ext hx1).lt;go_wp2_with fail
 exact bodyPost_ret (by simp [results,results209,go_sem,aM,bD]) rfl (bm.bh fin x0 (Touch.two _ (by omega) (by rw [Z0.o];omega) _ _))
theorem lu (w:World) (v:Int) (h1: -9223372036854775808≤v) (h2:v≤9223372036854775807):
 Calls prog 118 #[.int .i64 v] w (bm v w):=by
 by_cases h0:v<0
 ·obtain ⟨n,rfl⟩: ∃n:Nat,v= -(n:Int):=⟨v.natAbs,by omega⟩
  go_enter func118,ntmps118
  go_wp2_with fail
  obtain ⟨W,hW,x0,Z0,A0⟩:=aX w 117 [.bool false,.slice none 0 0];rw [←hW];clear hW;obtain ⟨aC,bf,bU,bV⟩:=ax A0 (Ext.refl _);have z0:=(A0.ext (Ext.refl _)).lt;rw [show-(-(n:Int)+1)+1=(n:Int)from by omega];refine (j9 _ n (by omega)).mono ?_;rintro e w1 ⟨a1,c1,rfl,hr1,iX,hx1⟩;obtain ⟨aC,bf,bU,bV⟩:=ax A0 hx1;have z0:=(A0.ext hx1).lt;go_wp2_with fail
  refine (ju _ true _ _ _ _ hr1).mono ?_;rintro e w2 Aj;have fin:=Aj.base hx1;obtain ⟨a2,c2,rfl,hr2,hf2,hx2⟩:=id fin;obtain ⟨aC,bf,bU,bV⟩:=ax A0 hx2;have z0:=(A0.ext hx2).lt;go_wp2_with fail
  exact bodyPost_ret (by simp [results,results118,go_sem,aC,bf]) rfl (bm.bh fin x0 (Touch.two _ (Nat.le_refl _) (by rw [Z0.o];omega) _ _))
 ·obtain ⟨n,rfl⟩: ∃n:Nat,v=(n:Int):=⟨v.natAbs,by omega⟩
  have e1:IntKind.u64.wrap (n:Int)=(n:Int):=by rw [IntKind.wrap_u64];omega
  go_enter func118,ntmps118
  go_wp2_with fail
  obtain ⟨W,hW,x0,Z0,A0⟩:=aX w 117 [.bool false,.slice none 0 0];rw [←hW];clear hW;obtain ⟨aC,bf,bU,bV⟩:=ax A0 (Ext.refl _);have z0:=(A0.ext (Ext.refl _)).lt;refine (j9 _ n (by omega)).mono ?_;rintro e w1 ⟨a1,c1,rfl,hr1,iX,hx1⟩;obtain ⟨aC,bf,bU,bV⟩:=ax A0 hx1;have z0:=(A0.ext hx1).lt;go_wp2_with fail
  refine (ju _ false _ _ _ _ hr1).mono ?_;rintro e w2 Aj;have fin:=Aj.base hx1;obtain ⟨a2,c2,rfl,hr2,hf2,hx2⟩:=id fin;obtain ⟨aC,bf,bU,bV⟩:=ax A0 hx2;have z0:=(A0.ext hx2).lt;go_wp2_with fail
  exact bodyPost_ret (by simp [results,results118,go_sem,aC,bf]) rfl (bm.bh fin x0 (Touch.two _ (Nat.le_refl _) (by rw [Z0.o];omega) _ _))
theorem Cz (w:World) (s:Bool) (a b:Option Addr) (k c k' c' n m:Nat) (h:Raw w a k c n) (h':Raw w b k' c' m) (b1:k<1000000000) (b2:k'<1000000000):
 Calls prog 208 #[.agg #[.bool s,.slice a k c],.agg #[.bool s,.slice b k' c']] w (bm (aZ s n+aZ s m) w):=by
 rw [←FJ];go_enter func208,ntmps208
 go_wp2_with fail
 obtain ⟨W,hW,x0,Z0,A0,A1,A2⟩:=gl w 117 [.bool s,.slice a k c] 117 [.bool s,.slice b k' c'] 117 [.bool false,.slice none 0 0];rw [←hW];clear hW;obtain ⟨aC,bf,bU,bV⟩:=ax A0 (Ext.refl _);have z0:=(A0.ext (Ext.refl _)).lt;obtain ⟨aM,bD,cj,cq⟩:=ax A1 (Ext.refl _);have z1:=(A1.ext (Ext.refl _)).lt;obtain ⟨bj,bQ,ct,cA⟩:=ax A2 (Ext.refl _);have z2:=(A2.ext (Ext.refl _)).lt
 go_region_held3 (fun w'=>w'.cell? ⟨w.heap.size,0,none⟩=some (.bool s)∧w'.cell? ⟨w.heap.size,1,none⟩=some (.slice a k c)∧w'.cell? ⟨w.heap.size+1,0,none⟩=some (.bool s)∧w'.cell? ⟨w.heap.size+1,1,none⟩=some (.slice b k' c')) (first|exact ⟨aC,bf,aM,bD⟩|(simp [go_sem,aC,bf,aM,bD])) (first
  |(go_at_call 226;refine (qj _ _ _ _ _ _ _ _ _ ((h.ext x0).ext (by exact (Ext.refl _).drew)) ((h'.ext x0).ext (by exact (Ext.refl _).drew)) b1 b2).mono ?_;rintro e w1 ⟨a1,c1,rfl,hr1,iX,hx1⟩;obtain ⟨aC,bf,bU,bV⟩:=ax A0 (((Ext.refl _).drew).trans hx1);have z0:=(A0.ext (((Ext.refl _).drew).trans hx1)).lt;obtain ⟨aM,bD,cj,cq⟩:=ax A1 (((Ext.refl _).drew).trans hx1);have z1:=(A1.ext (((Ext.refl _).drew).trans hx1)).lt;obtain ⟨bj,bQ,ct,cA⟩:=ax A2 (((Ext.refl _).drew).trans hx1);have z2:=(A2.ext (((Ext.refl _).drew).trans hx1)).lt)
  |(go_at_call 175;refine (ju _ _ _ _ _ _ hr1).mono ?_;rintro e w2 ⟨a2,c2,rfl,hr2,hf2,hx2⟩;obtain ⟨aC,bf,bU,bV⟩:=ax A0 ((((Ext.refl _).drew).trans hx1).trans hx2);have z0:=(A0.ext ((((Ext.refl _).drew).trans hx1).trans hx2)).lt;obtain ⟨aM,bD,cj,cq⟩:=ax A1 ((((Ext.refl _).drew).trans hx1).trans hx2);have z1:=(A1.ext ((((Ext.refl _).drew).trans hx1).trans hx2)).lt;obtain ⟨bj,bQ,ct,cA⟩:=ax A2 ((((Ext.refl _).drew).trans hx1).trans hx2);have z2:=(A2.ext ((((Ext.refl _).drew).trans hx1).trans hx2)).lt))
 have fin:bm (aZ s (n+m)) W.drew _ w2:=⟨a2,c2,rfl,hr2,hf2.mono hx1.size,hx1.trans hx2⟩;go_wp2
 exact bodyPost_ret (by simp [results,results208,go_sem,bj,bQ]) rfl (bm.bh fin x0.drew (Touch.two _ (by omega) (by rw [World.drew,Z0.o];omega) _ _))
theorem Ak (w:World) (s:Bool) (a b:Option Addr) (k c k' c' n m:Nat) (h:Raw w a k c n) (h':Raw w b k' c' m):
 Calls prog 208 #[.agg #[.bool s,.slice a k c],.agg #[.bool (!s),.slice b k' c']] w (bm (aZ s n+aZ (!s) m) w):=by
 have hne:(s== !s)=false:=by cases s<;>rfl
 by_cases hle:m≤n
 ·rw [←Ck s n m hle]
  go_enter func208,ntmps208
  go_wp2_with fail
  obtain ⟨W,hW,x0,Z0,A0,A1,A2⟩:=gl w 117 [.bool s,.slice a k c] 117 [.bool (!s),.slice b k' c'] 117 [.bool false,.slice none 0 0];rw [←hW];clear hW;have aC:=ax A0 (Ext.refl _);have z0:=(A0.ext (Ext.refl _)).lt;have aM:=ax A1 (Ext.refl _);have z1:=(A1.ext (Ext.refl _)).lt;obtain ⟨bj,bQ,ct,cA⟩:=ax A2 (Ext.refl _);have z2:=(A2.ext (Ext.refl _)).lt;refine (Ah _ _ _ _ _ _ _ _ _ (h.ext x0) (h'.ext x0) hle).mono ?_;rintro e w1 ⟨a1,c1,rfl,hr1,iX,hx1⟩;have aC:=ax A0 hx1;have z0:=(A0.ext hx1).lt;have aM:=ax A1 hx1;have z1:=(A1.ext hx1).lt;obtain ⟨bj,bQ,ct,cA⟩:=ax A2 hx1;have z2:=(A2.ext hx1).lt;go_wp2_with fail
  refine (ju _ s _ _ _ _ hr1).mono ?_;rintro e w2 Aj;have fin:=Aj.base hx1;obtain ⟨a2,c2,rfl,hr2,hf2,hx2⟩:=id fin;have aC:=ax A0 hx2;have z0:=(A0.ext hx2).lt;have aM:=ax A1 hx2;have z1:=(A1.ext hx2).lt;obtain ⟨bj,bQ,ct,cA⟩:=ax A2 hx2;have z2:=(A2.ext hx2).lt;go_wp2
  exact bodyPost_ret (by simp [results,results208,go_sem,bj,bQ]) rfl (bm.bh fin x0 (Touch.two _ (by omega) (by rw [Z0.o];omega) _ _))
 ·rw [←Cm s n m (by omega)]
  go_enter func208,ntmps208
  go_wp2_with fail
  obtain ⟨W,hW,x0,Z0,A0,A1,A2⟩:=gl w 117 [.bool s,.slice a k c] 117 [.bool (!s),.slice b k' c'] 117 [.bool false,.slice none 0 0];rw [←hW];clear hW;have aC:=ax A0 (Ext.refl _);have z0:=(A0.ext (Ext.refl _)).lt;have aM:=ax A1 (Ext.refl _);have z1:=(A1.ext (Ext.refl _)).lt;obtain ⟨bj,bQ,ct,cA⟩:=ax A2 (Ext.refl _);have z2:=(A2.ext (Ext.refl _)).lt;refine (tF _ _ _ _ _ _ _ _ _ (h.ext x0) (h'.ext x0) (by omega)).mono ?_;rintro e w1 ⟨rfl,ib⟩;have aC:=ax A0 ib;have z0:=(A0.ext ib).lt;have aM:=ax A1 ib;have z1:=(A1.ext ib).lt;obtain ⟨bj,bQ,ct,cA⟩:=ax A2 ib;have z2:=(A2.ext ib).lt;go_wp2_with fail
  refine (Ah _ _ _ _ _ _ _ _ _ ((h'.ext x0).ext ib) ((h.ext x0).ext ib) (by omega)).mono ?_;rintro e w2 ⟨a1,c1,rfl,hr1,iX,hx1⟩;have aC:=ax A0 (ib.trans hx1);have z0:=(A0.ext (ib.trans hx1)).lt;have aM:=ax A1 (ib.trans hx1);have z1:=(A1.ext (ib.trans hx1)).lt;obtain ⟨bj,bQ,ct,cA⟩:=ax A2 (ib.trans hx1);have z2:=(A2.ext (ib.trans hx1)).lt;go_wp2_with fail
  refine (ju _ (!s) _ _ _ _ hr1).mono ?_;rintro e w3 Aj;have fin:=Aj.base (ib.trans hx1);obtain ⟨a2,c2,rfl,hr2,hf2,hx2⟩:=id fin;have aC:=ax A0 hx2;have z0:=(A0.ext hx2).lt;have aM:=ax A1 hx2;have z1:=(A1.ext hx2).lt;obtain ⟨bj,bQ,ct,cA⟩:=ax A2 hx2;have z2:=(A2.ext hx2).lt;go_wp2
  exact bodyPost_ret (by simp [results,results208,go_sem,bj,bQ]) rfl (bm.bh fin x0 (Touch.two _ (by omega) (by rw [Z0.o];omega) _ _))
theorem Ev (w:World) (s t:Bool) (a b:Option Addr) (k c k' c' n m:Nat) (h:Raw w a k c n) (h':Raw w b k' c' m) (b1:k<1000000000) (b2:k'<1000000000):
 Calls prog 208 #[.agg #[.bool s,.slice a k c],.agg #[.bool t,.slice b k' c']] w (bm (aZ s n+aZ t m) w):=by
 by_cases e:t=s
 ·subst e;exact Cz w t a b k c k' c' n m h h' b1 b2
 ·obtain rfl:t= !s:=by cases s<;>cases t<;>simp_all
  exact Ak w s a b k c k' c' n m h h'
theorem Kq (w:World) (s t:Bool) (a b:Option Addr) (k c k' c' n m:Nat) (h:Raw w a k c n) (h':Raw w b k' c' m) (b1:len n<900000000) (b2:len m<900000000):
 Calls prog 172 #[.agg #[.bool s,.slice a k c],.agg #[.bool t,.slice b k' c']] w (bm (Nat.gcd n m:Nat) w):=by
 rw [←fj];go_enter func172,ntmps172
 go_wp2_with fail
 obtain ⟨W,hW,x0,Z0,A0,A1,A2⟩:=gl w 117 [.bool s,.slice a k c] 117 [.bool t,.slice b k' c'] 117 [.bool false,.slice none 0 0];rw [←hW];clear hW;have aC:=ax A0 (Ext.refl _);have z0:=(A0.ext (Ext.refl _)).lt;have aM:=ax A1 (Ext.refl _);have z1:=(A1.ext (Ext.refl _)).lt;obtain ⟨bj,bQ,ct,cA⟩:=ax A2 (Ext.refl _);have z2:=(A2.ext (Ext.refl _)).lt;refine (PC _ _ _ _ _ _ _ _ _ (h.ext x0) (h'.ext x0) b1 b2).mono ?_;rintro e w1 ⟨a1,c1,rfl,hr1,iX,hx1⟩;have aC:=ax A0 hx1;have z0:=(A0.ext hx1).lt;have aM:=ax A1 hx1;have z1:=(A1.ext hx1).lt;obtain ⟨bj,bQ,ct,cA⟩:=ax A2 hx1;have z2:=(A2.ext hx1).lt;go_wp2_with fail
 refine (ju _ false _ _ _ _ hr1).mono ?_;rintro e w2 Aj;have fin:=Aj.base hx1;obtain ⟨a2,c2,rfl,hr2,hf2,hx2⟩:=id fin;have aC:=ax A0 hx2;have z0:=(A0.ext hx2).lt;have aM:=ax A1 hx2;have z1:=(A1.ext hx2).lt;obtain ⟨bj,bQ,ct,cA⟩:=ax A2 hx2;have z2:=(A2.ext hx2).lt;go_wp2
 exact bodyPost_ret (by simp [results,results172,go_sem,bj,bQ]) rfl (bm.bh fin x0 (Touch.two _ (by omega) (by rw [Z0.o];omega) _ _))
theorem PE (w:World) (s t:Bool) (a b:Option Addr) (k c k' c' n m:Nat) (h:Raw w a k c n) (h':Raw w b k' c' m) (b1:k<1000000000) (b2:len m<1000000000):
 Calls prog 210 #[.agg #[.bool s,.slice a k c],.agg #[.bool t,.slice b k' c']] w (bm (aZ s n-aZ t m) w):=by
 obtain ⟨z,hz⟩: ∃z,z= -aZ t m:=⟨_,rfl⟩
 have hN: ∀V,Ext w V→Calls prog 174 #[.agg #[.bool t,.slice b k' c']] V (bm z V):=by
  intro V hV;rw [hz];exact Eu V t b k' c' m (h'.ext hV)
 have hA: ∀V a' c',Ext w V→Raw V a' (len z.natAbs) c' z.natAbs→Calls prog 208 #[.agg #[.bool s,.slice a k c],.agg #[.bool (decide (z<0)),.slice a' (len z.natAbs) c']] V (bm (aZ s n-aZ t m) V):=by
  intro V a' c' hV hR;have:=Ev V s (decide (z<0)) a a' k c _ c' n _ (h.ext hV) hR b1 (by rw [hz,Int.natAbs_neg,bF];exact b2);have e:aZ s n+z=aZ s n-aZ t m:=by rw [hz,←Int.sub_eq_add_neg]
  rw [kd,e]at this;exact this
 have HA:=ae hA;have HN:=ae hN;clear hA hN hz
 obtain ⟨zr,hzr⟩: ∃zr,zr=aZ s n-aZ t m:=⟨_,rfl⟩;rw [←hzr]at HA⊢;clear hzr;go_enter func210,ntmps210
 go_wp2_with fail
 obtain ⟨W,hW,x0,Z0,A0,A1,A2⟩:=gl w 117 [.bool s,.slice a k c] 117 [.bool t,.slice b k' c'] 117 [.bool false,.slice none 0 0];rw [←hW];clear hW;obtain ⟨aC,bf,bU,bV⟩:=ax A0 (Ext.refl _);have z0:=(A0.ext (Ext.refl _)).lt;obtain ⟨aM,bD,cj,cq⟩:=ax A1 (Ext.refl _);have z1:=(A1.ext (Ext.refl _)).lt;obtain ⟨bj,bQ,ct,cA⟩:=ax A2 (Ext.refl _);have z2:=(A2.ext (Ext.refl _)).lt
 go_region_held3 (fun w'=>w'.cell? ⟨w.heap.size,0,none⟩=some (.bool s)∧w'.cell? ⟨w.heap.size,1,none⟩=some (.slice a k c)∧w'.cell? ⟨w.heap.size+1,0,none⟩=some (.bool t)∧w'.cell? ⟨w.heap.size+1,1,none⟩=some (.slice b k' c')) (first|exact ⟨aC,bf,aM,bD⟩|(simp [go_sem,aC,bf,aM,bD])) (first
  |(go_at_call 174;refine (HN.o _ (by exact x0.drew)).mono ?_;rintro e w1 ⟨a1,c1,rfl,hr1,iX,hx1⟩;obtain ⟨aC,bf,bU,bV⟩:=ax A0 (((Ext.refl _).drew).trans hx1);have z0:=(A0.ext (((Ext.refl _).drew).trans hx1)).lt;obtain ⟨aM,bD,cj,cq⟩:=ax A1 (((Ext.refl _).drew).trans hx1);have z1:=(A1.ext (((Ext.refl _).drew).trans hx1)).lt;obtain ⟨bj,bQ,ct,cA⟩:=ax A2 (((Ext.refl _).drew).trans hx1);have z2:=(A2.ext (((Ext.refl _).drew).trans hx1)).lt)
  |(go_at_call 208;refine (HA.o _ _ _ (x0.drew.trans hx1) hr1).mono ?_;rintro e w2 ⟨a2,c2,rfl,hr2,hf2,hx2⟩;obtain ⟨aC,bf,bU,bV⟩:=ax A0 ((((Ext.refl _).drew).trans hx1).trans hx2);have z0:=(A0.ext ((((Ext.refl _).drew).trans hx1).trans hx2)).lt;obtain ⟨aM,bD,cj,cq⟩:=ax A1 ((((Ext.refl _).drew).trans hx1).trans hx2);have z1:=(A1.ext ((((Ext.refl _).drew).trans hx1).trans hx2)).lt;obtain ⟨bj,bQ,ct,cA⟩:=ax A2 ((((Ext.refl _).drew).trans hx1).trans hx2);have z2:=(A2.ext ((((Ext.refl _).drew).trans hx1).trans hx2)).lt))
 have fin:bm zr W.drew _ w2:=⟨a2,c2,rfl,hr2,hf2.mono hx1.size,hx1.trans hx2⟩;go_wp2
 exact bodyPost_ret (by simp [results,results210,go_sem,bj,bQ]) rfl (bm.bh fin x0.drew (Touch.two _ (by omega) (by rw [World.drew,Z0.o];omega) _ _))
end Go.Proofs.YtkpngkdgphojlaaGreat
