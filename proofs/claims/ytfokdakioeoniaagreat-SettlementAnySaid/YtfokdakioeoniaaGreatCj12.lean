/- Texts of the proof. -/
import Derived.Test.YtfokdakioeoniaaGreatCj11
set_option linter.all false
set_option maxHeartbeats 4000000
set_option maxRecDepth 100000
namespace Go.Proofs.YtfokdakioeoniaaGreat
open Go.Proofs.Tryz
open Go.RowKit
theorem QW {wr:World} {b:Nat} {T:TypeId} {l l' r:List Nat} {M q n m:Nat} (h1:l.length=M) (h2:l'.length<=M) (hM:M<=1099511627776) (hr:r.length=M) (hs:Small r) (hn:val l=n) (hm:val l'=m) (hle:m<=n)
 (hv:val r+val (l'.take M)=val (l.take M)+4294967296^M*q) (dI:aY wr b T (dC (r++List.replicate (M-M) 0))):Raw wr (some ⟨b,0,none⟩) M M (n-m):=by
 rw [List.take_of_length_le ae,List.take_of_length_le ae,hn,hm]at hv;have hv2:=kA hs;rw [hr]at hv2
 have q0:q=0:=by
  apply Nat.eq_zero_of_not_pos;intro h
  have:=Nat.le_mul_of_pos_right (4294967296^M) h;omega
 rw [q0,Nat.mul_zero,Nat.add_zero]at hv;rw [Nat.sub_self,List.replicate_zero,List.append_nil]at dI;have h4:=dI.limbs hs (by rw [hr];omega);rw [hr]at h4;exact ⟨r,hr,ae,h4⟩
theorem vM (w:World) (a b:Option Addr) (k k' c c' n m:Nat) (ha:Raw w a k c n) (hb:Raw w b k' c' m) (hlt:n<m):
 Calls prog 224 #[.slice a k c,.slice b k' c'] w λe w'=>e= .returned (.tuple #[.slice none 0 0,.bool false])/\Ext w w':=by
 have xS:gp n m= -1:=by unfold gp;rw [if_pos hlt]
 go_enter func224,ntmps224
 go_wp2_with fail
 refine (zy _ _ _ _ _ _ _ _ _ ha hb).mono ?_;rintro e w0 ⟨rfl,tR⟩;rw [xS];go_wp2
 go_ret2
 exact ⟨rfl,tR⟩
theorem Di (w:World) (a b:Option Addr) (k k' c c' n m:Nat) (ha:Raw w a k c n) (hb:Raw w b k' c' m) (hle:m<=n):
 Calls prog 224 #[.slice a k c,.slice b k' c'] w (zi (n-m) w):=by
 have Hp:=dt hle;have xS:0<=gp n m:=by unfold gp;rw [if_neg ae];split<;>decide
 go_enter func224,ntmps224
 go_wp2_with fail
 refine (zy _ _ _ _ _ _ _ _ _ ha hb).mono ?_;rintro e w0 ⟨rfl,tR⟩;go_wp2_with fail
 refine (fL _ _ _ _ _ (ha.ext tR)).mono ?_;rintro e w1 ⟨a1,c1,rfl,ZZ,SM,NR⟩;go_wp2_with fail
 refine (fL _ _ _ _ _ (hb.ext (tR.trans NR))).mono ?_;rintro e w2 ⟨b1,d1,rfl,Bp,hF2,Qk⟩;have la:=ZZ.le;have lb:=Bp.le;have HX:=af (tR.trans (NR.trans Qk));obtain ⟨l,hl,hv,hA⟩:=ZZ.ext Qk;obtain ⟨l',hl',hv',hB⟩:=Bp;have s1:=hA.small;have s2:=hB.small;have HL:=af hl;have ml:=af hl';have HV:=af hv;have CV:=af hv'
 clear hl hl' hv hv';go_wp2_with (at_make;refine bU _ rfl _ _ 59 rfl 93 (.int .u32 0) 4 underlying59 Tryz.info_u32 rfl _ _ (len n) rfl rfl bq bq ae ae ?_;intro w3 kR hx1 hz1)
 go_loopw [7,8] (λcy i wr=> ∃(j q:Nat) (r:List Nat),j<=len n/\Hid (r.length=j)/\Small r/\q<=1/\Hid (val r+val (l'.take j)=val (l.take j)+4294967296^j*q)/\Hid (aY wr w2.heap.size 93 (dC (r++List.replicate (len n-j) 0)))/\Ext w2 wr/\cy= .int .u64 q/\i= .int .i64 j) (λ_ i _=>len n-(intOf i).toNat)
 case atStart=>exact ⟨0,0,[],bm,rfl,Small.nil,bm,rfl,by have:=kR.o;rw [dv]at this;exact this,hx1,rfl,rfl⟩
 case round=>
  obtain ⟨j,q,r,hj,hr,hs,hq,hval,dI,dU,rfl,rfl⟩:=hrel;by_cases h0:j<len n
  .obtain ⟨p,o,rfl⟩:=hA.at (by rw [HL.o];omega)
   have hc:=(hA.ext dU).cellAt j (by rw [HL.o];omega);have hx:=bZ s1 j;have hst:=zB dI.o hr.o h0;have qG:=dI.o.frozen j;have HN:=af (λx=>zA dI.o hr.o h0 x);by_cases h1:j<len m
   .obtain ⟨p',o',rfl⟩:=hB.at (by rw [ml.o];omega)
    have hc':=(hB.ext dU).cellAt j (by rw [ml.o];omega);have hy:=bZ s2 j;by_cases h2:limb l j<q+limb l' j
    .go_wp2
     go_roundw
     case rel=>
      have oN:=oL (L:=l) (M:=l') (q:=q) (q':=1) (z:=limb l j+4294967296-(q+limb l' j)) (i:=j) (by rw [HL.o];omega) hr.o hval.o (by rw [ml.o];omega) rfl rfl ae;refine ⟨j+1,1,r++ [_],ae,(show _=_ by simp [hr.o]),hs.append (Small.one ?_),ae,oN,?_,dU.setCell cG _,rfl,bq⟩
      .omega
      .have:=HN.o (limb l j+4294967296-(q+limb l' j))
       rw [show((limb l j+4294967296-(q+limb l' j):Nat):Int)=((limb l j:Nat):Int)+4294967296-((q:Nat)+(limb l' j:Nat):Int)from by omega]at this;exact this
     case measure=>simp [intOf];omega
    .go_wp2
     go_roundw
     case rel=>
      have oN:=oL (L:=l) (M:=l') (q:=q) (q':=0) (z:=limb l j-(q+limb l' j)) (i:=j) (by rw [HL.o];omega) hr.o hval.o (by rw [ml.o];omega) rfl rfl ae;refine ⟨j+1,0,r++ [_],ae,(show _=_ by simp [hr.o]),hs.append (Small.one ?_),ae,oN,?_,dU.setCell cG _,rfl,bq⟩
      .omega
      .have:=HN.o (limb l j-(q+limb l' j))
       rw [show((limb l j-(q+limb l' j):Nat):Int)=((limb l j:Nat):Int)-((q:Nat)+(limb l' j:Nat):Int)from by omega]at this;exact this
     case measure=>simp [intOf];omega
   .have e1:limb l' j=0:=gK (by rw [ml.o];omega)
    have EY:=af e1;clear e1
    by_cases h2:limb l j<q
    .go_wp2
     go_roundw
     case rel=>
      have oN:=oL (L:=l) (M:=l') (q:=q) (q':=1) (z:=limb l j+4294967296-(q)) (i:=j) (by rw [HL.o];omega) hr.o hval.o (by rw [ml.o];omega) rfl EY.o ae;refine ⟨j+1,1,r++ [_],ae,(show _=_ by simp [hr.o]),hs.append (Small.one ?_),ae,oN,?_,dU.setCell cG _,rfl,bq⟩
      .omega
      .have:=HN.o (limb l j+4294967296-(q))
       rw [show((limb l j+4294967296-(q):Nat):Int)=((limb l j:Nat):Int)+4294967296-((q:Nat):Int)from by omega]at this;exact this
     case measure=>simp [intOf];omega
    .go_wp2
     go_roundw
     case rel=>
      have oN:=oL (L:=l) (M:=l') (q:=q) (q':=0) (z:=limb l j-(q)) (i:=j) (by rw [HL.o];omega) hr.o hval.o (by rw [ml.o];omega) rfl EY.o ae;refine ⟨j+1,0,r++ [_],ae,(show _=_ by simp [hr.o]),hs.append (Small.one ?_),ae,oN,?_,dU.setCell cG _,rfl,bq⟩
      .omega
      .have:=HN.o (limb l j-(q))
       rw [show((limb l j-(q):Nat):Int)=((limb l j:Nat):Int)-((q:Nat):Int)from by omega]at this;exact this
     case measure=>simp [intOf];omega
  .obtain rfl:j=len n:=ae
   have HR:=af (QW HL.o (by rw [ml.o];exact Hp) ae hr.o hs HV.o CV.o hle hval.o dI.o);clear hval;go_wp2_with fail
   refine (fL _ _ _ _ _ HR.o).mono ?_;rintro e w' ⟨a',c',rfl,hR,hF,hX⟩;go_wp2
   go_ret2
   exact ⟨_,_,rfl,hR,hF.mono (Nat.le_trans HX.o.size dU.size),HX.o.trans (dU.trans hX)⟩
theorem yK {w:World} {b i:Nat} {T:TypeId} {P:List Nat} (h:aY w b T (dC P)) (x:Nat) (v:Int) (hv:v=(x:Int)):aY (w.setCell ⟨b,i,none⟩ (.int .u32 v)) b T (dC (P.set i x)):=by
 subst hv;have:=h.set i (.int .u32 (x:Nat));rwa [gz]at this
theorem Dj {w:World} {b i:Nat} {T:TypeId} {P:List Nat} (h:aY w b T (dC P)) (hi:i<P.length):w.cell? ⟨b,i,none⟩=some (.int .u32 (limb P i:Nat)):=by
 rw [h.cell,fu _ _ hi]
theorem Oa {q p x y:Nat} (hq:q<4294967296) (hp:p<4294967296) (hx:x<4294967296) (hy:y<4294967296):
 IntKind.u64.wrap ((q:Int)+IntKind.u64.wrap ((p:Int)+IntKind.u64.wrap ((x:Int)*(y:Int))))=((q+(x*y+p):Nat):Int)/\q+(x*y+p)<18446744073709551616:=by
 have qH:x*y<=4294967295*4294967295:=Nat.mul_le_mul ae ae;rw [<-Int.natCast_mul];generalize x*y=z at*;simp only [IntKind.wrap_u64];omega
theorem Uj (w:World) (a b:Option Addr) (k k' c c' n m:Nat) (ha:Raw w a k c n) (hb:Raw w b k' c' m) (h1:k<1000000000) (h2:k'<1000000000):
 Calls prog 225 #[.slice a k c,.slice b k' c'] w (jU (n*m) w):=by
 obtain ⟨l,hl,hv,hA⟩:=ha;obtain ⟨l',hl',hv',hB⟩:=hb;have s1:=hA.small;have s2:=hB.small;have HL:=af hl;have ml:=af hl';have HV:=af hv;have CV:=af hv'
 clear hl hl' hv hv';go_enter func225,ntmps225
 go_wp2_with (at_make;refine bU _ rfl _ _ 59 rfl 93 (.int .u32 0) 4 underlying59 Tryz.info_u32 rfl _ _ (k+k') rfl rfl bq bq ae ae ?_;intro w1 kR hx1 hz1)
 go_loopw [6] (λi wr=> ∃(j:Nat) (P:List Nat),j<=k/\Hid (P.length=k+k')/\Small P/\Hid (val P=val (l.take j)*m)/\Hid (∀t,j+k'<=t->limb P t=0)/\Hid (aY wr w.heap.size 93 (dC P))/\Ext w wr/\i= .int .i64 j) (λi _=>k-(intOf i).toNat)
 case atStart=>exact ⟨0,List.replicate (k+k') 0,bm,(show _=_ by simp),Small.replicate _,(show _=_ by simp [val,lL]),(show∀t,_ from λt _=>nj _ _),by have:=kR.o;rw [dv]at this;exact this,hx1,rfl⟩
 case round=>
  obtain ⟨i,P,hi,hP,hs,hval,hz,dI,dU,rfl⟩:=hrel;by_cases h0:i<k
  .obtain ⟨pa,oa,rfl⟩:=hA.at (by rw [HL.o];omega)
   have hx:=bZ s1 i;go_wp2
   obtain ⟨wo,rfl⟩: ∃wo:World,wo=wr:=⟨_,rfl⟩;go_loopw [7,8] (λcy jj wr=> ∃(j q:Nat) (P':List Nat),j<=k'/\q<4294967296/\Hid (P'.length=k+k')/\Small P'/\Hid (val P'+4294967296^(i+j)*q=val P+4294967296^i*(limb l i*val (l'.take j)))/\Hid (∀t,i+j<=t->limb P' t=limb P t)/\Hid (aY wr w.heap.size 93 (dC P'))/\Ext w wr/\cy= .int .u64 q/\jj= .int .i64 j) (λ_ jj _=>k'-(intOf jj).toNat)
   case atStart=>exact ⟨0,0,P,bm,ae,hP,hs,(show _=_ by simp [val]),(show∀t,_ from λt _=>rfl),dI,dU,rfl,rfl⟩
   case round=>
    obtain ⟨j,q,P',hj,hq,Lp,hs',hval',hz',oO,uC,rfl,rfl⟩:=hrel;by_cases h3:j<k'
    .obtain ⟨pb,ob,rfl⟩:=hB.at (by rw [ml.o];omega)
     have hc':=(hB.ext uC).cellAt j (by rw [ml.o];omega);have TV:=(hA.ext uC).cellAt i (by rw [HL.o];omega);have hy:=bZ s2 j;have hp:=bZ hs' (i+j);have hst:=Dj (i:=i+j) oO.o (by rw [Lp.o];omega);have qG:=oO.o.frozen (i+j);have HN:=af (λn x v hv=>yK (i:=i+j) (oO.o.ext (ah.drewN n)) x v hv);have HM:=af (Oa hq hp hx hy);have g0:(0:Int)<=(i:Int)+(j:Int):=ae;have g1:(i:Int)+(j:Int)<(k:Int)+(k':Int):=ae;have g2:(0:Int)<=(i:Int):=ae;have g3:(i:Int)<(k:Int):=ae;have g4:(0:Int)<=(j:Int):=ae;have g5:(j:Int)<(k':Int):=ae;go_wp2
     go_quiet (fail)
     go_wp2
     refine ⟨?_,?_⟩
     .have hm:=EW (x:=limb l i) (q:=q) (P:=P) (by rw [ml.o];omega) (by rw [Lp.o];omega) hval'.o
      have hM:=HM.o;rw [hM.1];refine ⟨j+1,(q+(limb l i*limb l' j+limb P' (i+j)))/4294967296,P'.set (i+j) ((q+(limb l i*limb l' j+limb P' (i+j))) % 4294967296),ae,?_,(show _=_ by simp [Lp.o]),hs'.set _ _ (Nat.mod_lt _ ai),hm,(show∀t,_ from λt ht=>by rw [n9 ae,hz'.o t ae]),?_,(uC.drewN _).setCell cG _,?_,bq⟩
      .clear hm;rw [Nat.div_lt_iff_lt_mul ai];omega
      .exact HN.o _ _ _ aX
      .simp
     .simp [intOf];omega
    .obtain rfl:j=k':=ae
     have hst:=Dj (i:=i+j) oO.o (by rw [Lp.o];omega);have qG:=oO.o.frozen (i+j);have HN:=af (yK (i:=i+j) oO.o q _ rfl);go_wp2
     go_roundw
     case rel=>
      refine ⟨i+1,P'.set (i+j) q,ae,(show _=_ by simp [Lp.o]),hs'.set _ _ hq,?_,?_,HN.o,uC.setCell cG _,bq⟩
      .show _=_
       have e1:=yF (l:=P') (k:=i+j) (by rw [Lp.o];omega) q;rw [hz'.o _ cG,hz.o _ cG]at e1;have e2:=hval'.o;rw [List.take_of_length_le (by rw [ml.o];exact cG),CV.o]at e2;rw [cd (by rw [HL.o];omega),Nat.add_mul,<-hval.o,Nat.mul_assoc];omega
      .show∀t,_
       intro t ht;rw [n9 ae,hz'.o t ae,hz.o t ae]
     case measure=>simp [intOf];omega
  .obtain rfl:i=k:=ae
   have oM:Raw wr (some ⟨w.heap.size,0,none⟩) (i+k') (i+k') (n*m):=by
    have h3:=dI.o.limbs hs (by rw [hP.o];omega);rw [hP.o]at h3;refine ⟨P,hP.o,?_,h3⟩;rw [hval.o,List.take_of_length_le (by rw [HL.o];exact cG),HV.o]
   have HR:=af oM;clear oM
   go_wp2_with fail
   refine (fL _ _ _ _ _ HR.o).mono ?_;rintro e w' ⟨a',c',rfl,hR,hF,hX⟩;go_wp2
   go_ret;exact ⟨_,_,rfl,hR,hF.mono dU.size,dU.trans hX⟩
def jx (n:Nat):Nat:=if n=0 then 0 else n.log2+1
theorem Iz:jx 0=0:=rfl
theorem zC {n:Nat} (h:0<n):jx n=jx (n/2)+1:=by
 unfold jx;rw [if_neg ae,Nat.log2_def];by_cases h2:2<=n
 .rw [if_pos h2,if_neg ae]
 .rw [if_neg h2,if_pos ae]
theorem oT (n:Nat):n<2^jx n:=by
 unfold jx;split
 .omega
 .exact Nat.lt_log2_self
theorem qR {n k:Nat} (h:n<2^k):jx n<=k:=by
 unfold jx;split
 .omega
 .rename_i h0
  have:=(Nat.log2_lt h0).2 h;omega
theorem Fp {x y k:Nat} (hx:x<2^k) (hy:0<y):jx (x+2^k*y)=k+jx y:=by
 induction k generalizing x with
 |zero=>simp at hx;subst hx;simp
 |succ k ih=>
  have hp:0<2^(k+1)*y:=Nat.mul_pos (Nat.two_pow_pos _) hy;rw [zC ae]
  have e:(x+2^(k+1)*y)/2=x/2+2^k*y:=by
   rw [Nat.pow_succ,Nat.mul_comm (2^k) 2,Nat.mul_assoc];omega
  rw [e,ih (by rw [Nat.pow_succ]at hx;omega)];omega
theorem Bq {l:List Nat} (hs:Small l) (h0:0<l.length) (ht:limb l (l.length-1)≠0):jx (val l)=32*(l.length-1)+jx (limb l (l.length-1)):=by
 have e:=jI l (l.length-1) ae;rw [List.drop_of_length_le ae]at e;rw [e,pow_eq];have hv:=kA (hs.take (l.length-1));rw [List.length_take,Nat.min_eq_left ae,pow_eq]at hv;have:val ([]:List Nat)=0:=rfl;rw [this,Nat.mul_zero,Nat.add_zero];exact Fp hv ae
theorem QX (w:World) (a:Option Addr) (k c n:Nat) (h:Raw w a k c n):
 Calls prog 240 #[.slice a k c] w λe w'=>e= .returned (.int .i64 (jx n:Nat))/\Ext w w':=by
 go_enter func240,ntmps240
 go_wp2_with fail
 refine (fL _ _ _ _ _ h).mono ?_;rintro e w1 ⟨a1,c1,rfl,hR,hF,hX⟩;have la:=hR.le;by_cases h0:n=0
 .subst h0
  have:len 0=0:=rfl;rw [this];go_wp2
  go_ret;exact ⟨rfl,hX⟩
 .have hp:=iy.2 (Nat.pos_of_ne_zero h0)
  obtain ⟨l,hl,hv,hA⟩:=hR;obtain ⟨p,o,rfl⟩:=hA.at ae;have hc:=hA.cellAt (len n-1) ae;have hx:=bZ hA.small (len n-1);have ht:=nZ hA.small ae (by rw [hv,hl]);have hb0:=Bq hA.small ae ht;rw [hv,hl]at hb0;rw [hl]at ht;have HB:=af hb0;have Z4:jx n<=32*len n:=qR (by rw [<-pow_eq];exact js n);clear hb0;have HL:=af hl;have HV:=af hv
  clear hl hv;have he:(((len n:Nat):Int)==0)=false:=by rw [beq_eq_false_iff_ne];omega
  go_wp2
  go_loop [3,4] (λi v=> ∃(t x:Nat),t<=32*1099511627776/\x<4294967296/\Hid (jx n=t+jx x)/\i= .int .i64 t/\v= .int .u32 x) (λ_ v=>(intOf v).toNat)
  case atStart=>exact ⟨32*(len n-1),limb l (len n-1),ae,hx,HB,bq,rfl⟩
  case round=>
   obtain ⟨t,x,QI,Nn,hb,rfl,rfl⟩:=hrel;by_cases hx0:0<x
   .go_wp2
    go_round
    case rel=>
     have hb1:=hb.o;rw [zC hx0]at hb1;exact ⟨t+1,x/2,ae,ae,(show _=_ by omega),bq,bq⟩
    case measure=>simp [intOf];omega
   .obtain rfl:x=0:=ae
    go_wp2
    go_ret;have hb1:=hb.o;rw [Iz,Nat.add_zero]at hb1;exact ⟨by rw [hb1];rfl,hX⟩
theorem Fq (x:Nat) (hx:x<4294967296):bits BinOp.and IntKind.u32 (x:Int) 1=((x % 2:Nat):Int):=by
 have:=u32_and_nat x 1 hx ai;rw [Nat.and_one_is_mod]at this;exact this
theorem Fs {l:List Nat} (hs:Small l) (i:Nat):val l/2^i % 2=limb l (i/32)/2^(i % 32) % 2:=by
 by_cases hlt:i/32<l.length
 .have e:=jI l (i/32) hlt
  have hv:=kA (hs.take (i/32));rw [List.length_take,Nat.min_eq_left ae,pow_eq]at hv;rw [pow_eq]at e
  have e1:val l/2^(32*(i/32))=limb l (i/32)+4294967296*val (l.drop (i/32+1)):=by
   rw [e,Nat.add_mul_div_left _ _ (Nat.two_pow_pos _),Nat.div_eq_of_lt hv,Nat.zero_add]
  have e2:2^i=2^(32*(i/32))*2^(i % 32):=by rw [<-Nat.pow_add];congr 1;omega
  rw [e2,<-Nat.div_div_eq_div_mul,e1];have hr:i % 32<32:=Nat.mod_lt _ ai;generalize i % 32=r at*
  have e3:4294967296=2^r*(2^(31-r)*2):=by
   rw [<-Nat.pow_succ,<-Nat.pow_add,show r+(31-r).succ=32 from by omega]
  rw [e3,Nat.mul_assoc,Nat.add_mul_div_left _ _ (Nat.two_pow_pos _),Nat.mul_comm (2^(31-r)) 2,Nat.mul_assoc,Nat.add_mul_mod_self_left]
 .rw [gK ae,Nat.zero_div,Nat.div_eq_of_lt]
  have hv:=kA hs;rw [pow_eq]at hv;exact Nat.lt_of_lt_of_le hv (Nat.pow_le_pow_right ai ae)
theorem Dk (w:World) (a:Option Addr) (k c n i:Nat) (h:Raw w a k c n) (hi:i<1000000000000):
 Calls prog 241 #[.slice a k c,.int .i64 (i:Nat)] w λe w'=>e= .returned (.int .u32 ((n/2^i % 2:Nat)))/\w'=w:=by
 obtain ⟨l,rfl,rfl,hA⟩:=h;have h1:=hA.le;have h2:=hA.short;by_cases hlt:i/32<l.length
 .obtain ⟨p,o,rfl⟩:=hA.at ae
  have hc:=hA.cellAt (i/32) hlt;have hx:=bZ hA.small (i/32);have HB:=af (Fs hA.small i);have hq:limb l (i/32)/2^(i % 32)<4294967296:=Nat.lt_of_le_of_lt (Nat.div_le_self _ _) hx;have HQ:=af hq;clear hq
  go_enter func241,ntmps241
  go_wp2
  go_ret;refine ⟨?_,rfl⟩;have e:=Fq _ HQ.o;rw [HB.o];refine cL ?_;rw [<-e];simp
 .have HB:=af (Fs hA.small i)
  have HZ:=af (gK (l:=l) (i:=i/32) ae);go_enter func241,ntmps241
  go_wp2
  go_ret;refine ⟨?_,rfl⟩;rw [HB.o,HZ.o,Nat.zero_div];rfl
theorem x_ (w:World) (a b:Option Addr) (k k' c c' n m:Nat) (ha:Raw w a k c n) (hb:Raw w b k' c' m) (hm:0<m) (QK:n<18446744073709551616) (QL:m<18446744073709551616):
 Calls prog 158 #[.slice a k c,.slice b k' c'] w (rU (n/m) (n % m) w):=by
 have pm:=iy.2 hm;have NK:(((len m:Nat):Int)==0)=false:=by rw [beq_eq_false_iff_ne];omega
 go_enter func158,ntmps158
 go_wp2_with fail
 refine (fL _ _ _ _ _ hb).mono ?_;rintro e w1 ⟨a1,c1,rfl,r1,f1,x1⟩;go_wp2_with fail
 refine (j0 _ _ _ _ _ (ha.ext x1) QK).mono ?_;rintro e w2 ⟨rfl,x2⟩;go_wp2_with fail
 refine (j0 _ _ _ _ _ (r1.ext x2) QL).mono ?_;rintro e w3 ⟨rfl,x3⟩;have hx:=(x1.trans x2).trans x3;have hq:n/m<=n:=Nat.div_le_self _ _;have hr:n % m<m:=Nat.mod_lt _ hm;have ZL:((m:Nat):Int)≠0:=ae;have ZM:(((m:Nat):Int)==0)=false:=by rw [beq_eq_false_iff_ne];omega
 have h1m:(1:Int)<=(m:Int):=ae;have ZK:n/m<18446744073709551616:=Nat.lt_of_le_of_lt hq QK;have hrb:n % m<18446744073709551616:=Nat.lt_trans hr QL
 have e1:IntKind.u64.wrap ((n:Int)/(m:Int))=((n/m:Nat):Int):=by
  rw [IntKind.wrap_u64,<-Int.natCast_ediv];generalize n/m=z at*;omega
 have e2:(n:Int).tmod (m:Int)=((n % m:Nat):Int):=by
  rw [Int.tmod_eq_emod_of_nonneg ae,Int.natCast_emod]
 generalize Wd:n/m=qq at*;generalize Lt:n % m=rr at*;have HQ:=af Wd;have HR:=af Lt;clear Wd Lt
 have gC:True:=trivial;go_wp2_with fail
 go_region_with (first
  |(go_at_call 86;have _t:=gC;refine (lQ _ _ (by assumption)).mono ?_;rintro e w4 ⟨a4,c4,rfl,hr4,J4,gW⟩;clear gC _t)
  |(go_at_call 86;refine (lQ _ _ (by assumption)).mono ?_;rintro e w5 ⟨a5,c5,rfl,BZ,Qh,gl⟩))
 all_goals go_wp2
 all_goals go_ret3
 all_goals exact ⟨a4,c4,a5,c5,rfl,hr4.ext gl,J4.mono hx.size,BZ,Qh.mono (Nat.le_trans hx.size gW.size),(hx.drew.trans gW).trans gl⟩
theorem IA (x i:Nat) (hx:x<4294967296) (hi:i<32):bits BinOp.or IntKind.u32 (x:Int) (2^i % 4294967296)=((x|||2^i:Nat):Int):=by
 have hp:2^i<4294967296:=Nat.pow_lt_pow_right (a:=2) ai hi;have h:=u32_or_nat x (2^i) hx hp
 have e:((2:Int)^i % 4294967296)=((2^i:Nat):Int):=by
  rw [show((2:Int)^i)=((2^i:Nat):Int)from by rw [Int.natCast_pow];rfl];generalize 2^i=z at*;omega
 rw [e];exact h
theorem Z5 (q p:Nat):q*(p*2)=2*q*p:=by rw [Nat.mul_comm p 2,<-Nat.mul_assoc,Nat.mul_comm q 2]
theorem QY {z m:Nat} (h:z<m):len (z+z)<=len m+1:=by
 rw [cg,Nat.pow_succ];have h8:=js m;generalize 4294967296^len m=P at h8⊢;omega
theorem qT (w:World):Raw (w.alloc (Obj.cells #[.int .u32 1] 93)) (some ⟨w.heap.size,0,none⟩) 1 1 1:=by
 have ha:=aY.alloc w 93 (dC [1]);exact ⟨[1],rfl,rfl,ha.limbs (Small.one ai) aX⟩
def Ob (n m k qb:Nat) (wq w2:World) (s5 Xt:Value) (wr:World):Prop:=
 ∃(j:Nat) (a5:Option Addr) (c5:Nat) (Q:List Nat),j<=jx n/\Raw wr a5 (len (n/2^j % m)) c5 (n/2^j % m)/\Fr wq.heap.size a5/\Q.length=k/\Small Q/\val Q=n/2^j/m*2^j/\aY wr qb 93 (dC Q)/\Ext w2 wr/\wq.heap.size<=wr.heap.size/\s5= .slice a5 (len (n/2^j % m)) c5/\Xt= .int .i64 ((j:Int)-1)
theorem ye (w:World) (a b:Option Addr) (k k' c c' n m:Nat) (ha:Raw w a k c n) (hb:Raw w b k' c' m) (hm:0<m) (hk:k<900000000) (qJ:k'<900000000) (Da: ¬(n<18446744073709551616/\m<18446744073709551616)):
 Calls prog 158 #[.slice a k c,.slice b k' c'] w (rU (n/m) (n % m) w):=by
 have pm:=iy.2 hm;have Hp:=hb.cg;have Qi:=ha.cg;have NK:(((len m:Nat):Int)==0)=false:=by rw [beq_eq_false_iff_ne];omega
 have Z4:jx n<=32*len n:=qR (by rw [<-pow_eq];exact js n);go_enter func158,ntmps158
 go_wp2_with fail
 refine (fL _ _ _ _ _ hb).mono ?_;rintro e w1 ⟨a1,c1,rfl,r1,f1,x1⟩;go_upto_region 4 with fail
 go_cut [7,8] (λs7 s8 wx=> ∃(x:Nat) (sm:Bool),s7= .int .u64 x/\s8= .bool sm/\Hid (sm=true->n<18446744073709551616)/\Ext w1 wx)
 case first=>
  by_cases hn:n<18446744073709551616
  .go_wp2_with fail
   refine (j0 _ _ _ _ _ (ha.ext x1) hn).mono ?_;rintro e w2 ⟨rfl,x2⟩;go_wp2
   go_meet
   exact ⟨n,true,rfl,rfl,(show _->_ from λ_=>hn),x2⟩
  .go_wp2_with fail
   refine (uO _ _ _ _ _ (ha.ext x1) ae).mono ?_;rintro e w2 ⟨rfl,x2⟩;go_wp2
   go_meet
   exact ⟨0,false,rfl,rfl,(show _->_ from λh=>by cases h),x2⟩
 case rest=>
  obtain ⟨x,sm,rfl,rfl,hsm,x2⟩:=hcut;go_upto_region 5 with fail
  go_cut [9,10] (λs9 s10 wx=> ∃(x:Nat) (sm:Bool),s9= .int .u64 x/\s10= .bool sm/\Hid (sm=true->m<18446744073709551616)/\Ext w1 wx)
  case first=>
   by_cases LI:m<18446744073709551616
   .go_wp2_with fail
    refine (j0 _ _ _ _ _ (r1.ext x2) LI).mono ?_;rintro e w2 ⟨rfl,x3⟩;go_wp2
    go_meet
    exact ⟨m,true,rfl,rfl,(show _->_ from λ_=>LI),x2.trans x3⟩
   .go_wp2_with fail
    refine (uO _ _ _ _ _ (r1.ext x2) ae).mono ?_;rintro e w2 ⟨rfl,x3⟩;go_wp2
    go_meet
    exact ⟨0,false,rfl,rfl,(show _->_ from λh=>by cases h),x2.trans x3⟩
  case rest=>
   obtain ⟨x',ft,rfl,rfl,hft,x3⟩:=hcut;go_upto_region 6 with fail
   go_cut [32] (λs32 wx=>s32= .bool false/\Ext w1 wx)
   case first=>
    cases sm with
    |true=>
     cases ft with
     |true=>exact absurd ⟨hsm.o rfl,hft.o rfl⟩ Da
     |false=>
      go_wp2
      go_meet
      exact ⟨rfl,x3⟩
    |false=>
     go_wp2
     go_meet
     exact ⟨rfl,x3⟩
   case rest=>
    obtain ⟨rfl,x4⟩:=hcut;clear x2 x3 hsm hft;obtain ⟨w4,rfl⟩: ∃w4:World,w4=wc:=⟨_,rfl⟩;have Hq:=ha.ext (x1.trans x4);go_wp2_with (at_make;refine bU _ rfl _ _ 59 rfl 93 (.int .u32 0) 4 underlying59 Tryz.info_u32 rfl _ _ k rfl rfl bq bq ae ae ?_;intro w5 uq gl hz5)
    refine (QX _ _ _ _ _ (Hq.ext gl)).mono ?_;rintro e w6 ⟨rfl,x6⟩;go_wp2_with fail
    have Xu:val (List.replicate k 0)=n/2^jx n/m*2^jx n:=by
     rw [lL,Nat.div_eq_of_lt (oT n),Nat.zero_div,Nat.zero_mul]
    have Uk:n/2^jx n % m=0:=by rw [Nat.div_eq_of_lt (oT n),Nat.zero_mod]
    have HS:Hid (Ob n m k w4.heap.size w5 w4 (.slice none 0 0) (.int .i64 ((jx n:Int)-1)) w6):=
     ⟨jx n,none,0,List.replicate k 0,cG,by rw [Uk];exact Raw.nil _,Fr.none _,aX,Small.replicate _,Xu,aY.ext (by have:=uq.o;rwa [dv]at this) x6,gl.trans x6,x6.size,by rw [Uk];rfl,rfl⟩
    have rB:=r1.ext x4;have Xv:=hz5.o;have HZ5:=af Xv;clear Xu Uk uq hz5 Xv x6;go_loopw [5,11] (λs5 Xt wr=>Ob n m k w4.heap.size w5 w4 s5 Xt wr) (λ_ Xt _=>(intOf Xt+1).toNat)
    case atStart=>exact HS.o
    case round=>
     obtain ⟨j,a5,c5,Q,hj,rR,fR,hQL,SN,hQV,Xw,vN,Ul,rfl,rfl⟩:=hrel;have ED:=af hQL;have LJ:=af hQV;have Um:=af Xw
     clear hQL hQV Xw;by_cases h0:0<j
     .obtain ⟨i,rfl⟩: ∃i,j=i+1:=⟨j-1,ae⟩
      rw [show(((i+1:Nat):Int)-1)=(i:Int)from by omega];have hik:i/32<k:=ae;have Ql:=af (QU SN LJ.o (by rw [ED.o];exact hik));have Un:=af (IA (limb Q (i/32)) (i % 32) (bZ SN _) (Nat.mod_lt _ ai));have hlx:=bZ SN (i/32);have Np:=LH n i;have hRm:=Nat.mod_lt (n/2^(i+1)) hm;have hlR:=dt (Nat.le_of_lt hRm)
      have hl2:len (n/2^(i+1) % m+n/2^(i+1) % m)<=len m+1:=by
       exact QY hRm
      have g0:(0:Int)<=(i:Int):=ae;rcases Nat.mod_two_eq_zero_or_one (n/2^i)with hb0|hb1
      .have SP:=af hb0
       obtain ⟨wZ,zD⟩:=Kf (n/2^(i+1)) m 0 hm ai;rw [hb0,Nat.add_zero]at Np;simp only [Nat.add_zero]at wZ zD;rw [<-Np]at wZ zD;clear hb0;by_cases oN:m<=2*(n/2^(i+1) % m)
       .have Uo:=af (wZ oN)
        have Xx:=af Np;clear wZ zD Np;generalize n/2^(i+1) % m=R at*;go_wp2_with fail
        refine (tX _ _ _ _ _ _ _ _ _ rR rR ae ae).mono ?_;rintro e u1 ⟨a6,c6,rfl,r6,f6,x6⟩;have tZ:=Dk u1 _ _ _ _ i ((Hq.ext vN).ext x6) ae;rw [SP.o]at tZ;go_wp2_with fail
        refine tZ.mono ?_;rintro e u2 ⟨rfl,rfl⟩;clear tZ;obtain ⟨u3,a8,c8,r8,xx,Xy,rfl,rfl,rfl⟩: ∃u3 a8 c8,Raw u3 a8 (len (R+R)) c8 (R+R)/\Ext wr u3/\Fr wr.heap.size a8/\u3=u2/\a8=a6/\c8=c6:=⟨u2,a6,c6,r6,x6,f6,rfl,rfl,rfl⟩;go_wp2_with fail
        refine (Di _ _ _ _ _ _ _ _ _ r8 ((rB.ext vN).ext xx) ae).mono ?_;rintro e u4 ⟨a9,c9,rfl,r9,f9,x9⟩;have xw:=xx.trans x9;have Uq:=aY.ext Um.o xw;have hst:=Dj (i:=i/32) Uq (by rw [ED.o];omega);have qG:=Uq.frozen (i/32);have Xz:=af (λv hv=>yK (i:=i/32) Uq (limb Q (i/32)|||2^(i % 32)) v hv);have XA:=f9.mono xx.size;go_wp2_with fail
        rw [Un.o]
        go_roundw
        case rel=>
         have Oc:=Uo.o;have Ur:(R+R)-m=n/2^i % m:=by rw [Oc.2];omega
         rw [Ur]at r9⊢;have Z7:=xw.size;refine ⟨i,a9,c9,Q.set (i/32) (limb Q (i/32)|||2^(i % 32)),ae,?_,XA.mono Ul,by simp [ED.o],SN.set _ _ Ql.o.1,?_,Xz.o _ rfl,(vN.trans xw).setCell cG _,?_,rfl,rfl⟩
         .exact r9.setCell _ _ (λx e=>by have h5:=XA x e;have h6:=Um.o.lt;simp only;omega)
         .rw [Ql.o.2,Oc.1]
          generalize n/2^(i+1)/m=q;rw [Nat.add_mul,Nat.pow_succ,Nat.one_mul,Z5]
         .simp [World.setCell];omega
        case measure=>simp [intOf]<;>omega
       .have Uo:=af (zD oN)
        have Xx:=af Np;clear wZ zD Np;generalize n/2^(i+1) % m=R at*;go_wp2_with fail
        refine (tX _ _ _ _ _ _ _ _ _ rR rR ae ae).mono ?_;rintro e u1 ⟨a6,c6,rfl,r6,f6,x6⟩;have tZ:=Dk u1 _ _ _ _ i ((Hq.ext vN).ext x6) ae;rw [SP.o]at tZ;go_wp2_with fail
        refine tZ.mono ?_;rintro e u2 ⟨rfl,rfl⟩;clear tZ;obtain ⟨u3,a8,c8,r8,xx,Xy,rfl,rfl,rfl⟩: ∃u3 a8 c8,Raw u3 a8 (len (R+R)) c8 (R+R)/\Ext wr u3/\Fr wr.heap.size a8/\u3=u2/\a8=a6/\c8=c6:=⟨u2,a6,c6,r6,x6,f6,rfl,rfl,rfl⟩;go_wp2_with fail
        refine (vM _ _ _ _ _ _ _ _ _ r8 ((rB.ext vN).ext xx) ae).mono ?_;rintro e u4 ⟨rfl,x9⟩;have xw:=xx.trans x9;go_wp2_with fail
        go_roundw
        case rel=>
         have Oc:=Uo.o;have Ur:(R+R)=n/2^i % m:=by rw [Oc.2];omega
         rw [Ur]at r8⊢;refine ⟨i,a8,c8,Q,ae,r8.ext x9,Xy.mono Ul,ED.o,SN,?_,aY.ext Um.o xw,vN.trans xw,dB xw.size,rfl,rfl⟩;rw [LJ.o,Oc.1];generalize n/2^(i+1)/m=q;rw [Nat.pow_succ,Z5]
        case measure=>simp [intOf]<;>omega
      .have SP:=af hb1
       obtain ⟨wZ,zD⟩:=Kf (n/2^(i+1)) m 1 hm ai;rw [hb1]at Np;rw [<-Np]at wZ zD;clear hb1;by_cases oN:m<=2*(n/2^(i+1) % m)+1
       .have Uo:=af (wZ oN)
        have Xx:=af Np;clear wZ zD Np;generalize n/2^(i+1) % m=R at*;go_wp2_with fail
        refine (tX _ _ _ _ _ _ _ _ _ rR rR ae ae).mono ?_;rintro e u1 ⟨a6,c6,rfl,r6,f6,x6⟩;have tZ:=Dk u1 _ _ _ _ i ((Hq.ext vN).ext x6) ae;rw [SP.o]at tZ;go_wp2_with fail
        refine tZ.mono ?_;rintro e u2 ⟨rfl,rfl⟩;clear tZ;go_wp2_with fail
        have r1:=qT u2;have x7:Ext u2 (u2.alloc (Obj.cells #[.int .u32 1] 93)):=ah.alloc _;refine (tX _ _ _ _ _ _ _ _ _ (r6.ext x7) r1 ae ae).mono ?_;rintro e u3 ⟨a8,c8,rfl,r8,f8,x8⟩;have xx:=(x6.trans x7).trans x8;have Xy:=f8.mono (Nat.le_trans x6.size x7.size);go_wp2_with fail
        refine (Di _ _ _ _ _ _ _ _ _ r8 ((rB.ext vN).ext xx) ae).mono ?_;rintro e u4 ⟨a9,c9,rfl,r9,f9,x9⟩;have xw:=xx.trans x9;have Uq:=aY.ext Um.o xw;have hst:=Dj (i:=i/32) Uq (by rw [ED.o];omega);have qG:=Uq.frozen (i/32);have Xz:=af (λv hv=>yK (i:=i/32) Uq (limb Q (i/32)|||2^(i % 32)) v hv);have XA:=f9.mono xx.size;go_wp2_with fail
        rw [Un.o]
        go_roundw
        case rel=>
         have Oc:=Uo.o;have Ur:(R+R+1)-m=n/2^i % m:=by rw [Oc.2];omega
         rw [Ur]at r9⊢;have Z7:=xw.size;refine ⟨i,a9,c9,Q.set (i/32) (limb Q (i/32)|||2^(i % 32)),ae,?_,XA.mono Ul,by simp [ED.o],SN.set _ _ Ql.o.1,?_,Xz.o _ rfl,(vN.trans xw).setCell cG _,?_,rfl,rfl⟩
         .exact r9.setCell _ _ (λx e=>by have h5:=XA x e;have h6:=Um.o.lt;simp only;omega)
         .rw [Ql.o.2,Oc.1]
          generalize n/2^(i+1)/m=q;rw [Nat.add_mul,Nat.pow_succ,Nat.one_mul,Z5]
         .simp [World.setCell];omega
        case measure=>simp [intOf]<;>omega
       .have Uo:=af (zD oN)
        have Xx:=af Np;clear wZ zD Np;generalize n/2^(i+1) % m=R at*;go_wp2_with fail
        refine (tX _ _ _ _ _ _ _ _ _ rR rR ae ae).mono ?_;rintro e u1 ⟨a6,c6,rfl,r6,f6,x6⟩;have tZ:=Dk u1 _ _ _ _ i ((Hq.ext vN).ext x6) ae;rw [SP.o]at tZ;go_wp2_with fail
        refine tZ.mono ?_;rintro e u2 ⟨rfl,rfl⟩;clear tZ;go_wp2_with fail
        have r1:=qT u2;have x7:Ext u2 (u2.alloc (Obj.cells #[.int .u32 1] 93)):=ah.alloc _;refine (tX _ _ _ _ _ _ _ _ _ (r6.ext x7) r1 ae ae).mono ?_;rintro e u3 ⟨a8,c8,rfl,r8,f8,x8⟩;have xx:=(x6.trans x7).trans x8;have Xy:=f8.mono (Nat.le_trans x6.size x7.size);go_wp2_with fail
        refine (vM _ _ _ _ _ _ _ _ _ r8 ((rB.ext vN).ext xx) ae).mono ?_;rintro e u4 ⟨rfl,x9⟩;have xw:=xx.trans x9;go_wp2_with fail
        go_roundw
        case rel=>
         have Oc:=Uo.o;have Ur:(R+R+1)=n/2^i % m:=by rw [Oc.2];omega
         rw [Ur]at r8⊢;refine ⟨i,a8,c8,Q,ae,r8.ext x9,Xy.mono Ul,ED.o,SN,?_,aY.ext Um.o xw,vN.trans xw,dB xw.size,rfl,rfl⟩;rw [LJ.o,Oc.1];generalize n/2^(i+1)/m=q;rw [Nat.pow_succ,Z5]
        case measure=>simp [intOf]<;>omega
     .obtain rfl:j=0:=ae
      have TW:=LJ.o;rw [Nat.pow_zero,Nat.div_one,Nat.mul_one]at TW;rw [Nat.pow_zero,Nat.div_one]at rR⊢
      have NV:Raw wr (some ⟨w4.heap.size,0,none⟩) k k (n/m):=by
       have h3:=Um.o.limbs SN (by rw [ED.o];omega);rw [ED.o]at h3;exact ⟨Q,ED.o,TW,h3⟩
      have RQ:=af NV;clear NV TW;go_wp2_with fail
      refine (fL _ _ _ _ _ RQ.o).mono ?_;rintro e u1 ⟨a6,c6,rfl,r6,f6,x6⟩;go_wp2_with fail
      refine (fL _ _ _ _ _ (rR.ext x6)).mono ?_;rintro e u2 ⟨a7,c7,rfl,r7,f7,x7⟩;go_wp2_with fail
      go_ret3
      have Dl:=(x1.trans x4).trans vN;exact ⟨a6,c6,a7,c7,rfl,r6.ext x7,f6.mono Dl.size,r7,f7.mono (Nat.le_trans Dl.size x6.size),(Dl.trans x6).trans x7⟩
theorem Cc (w:World) (a b:Option Addr) (k k' c c' n m:Nat) (ha:Raw w a k c n) (hb:Raw w b k' c' m) (hm:0<m) (hk:k<900000000) (qJ:k'<900000000):
 Calls prog 158 #[.slice a k c,.slice b k' c'] w (rU (n/m) (n % m) w):=by
 by_cases h:n<18446744073709551616/\m<18446744073709551616
 .exact x_ w a b k k' c c' n m ha hb hm h.1 h.2
 .exact ye w a b k k' c c' n m ha hb hm hk qJ h
def Od (g n m L:Nat) (w:World) (s0 s1:Value) (wr:World):Prop:=
 ∃(A B:Nat) (a b:Option Addr) (c c':Nat),B<=g/\Nat.gcd A B=Nat.gcd n m/\len A<=L/\len B<=L/\Raw wr a (len A) c A/\Raw wr b (len B) c' B/\Fr w.heap.size a/\Fr w.heap.size b/\Ext w wr/\s0= .slice a (len A) c/\s1= .slice b (len B) c'
theorem Us (w:World) (a b:Option Addr) (k k' c c' n m:Nat) (ha:Raw w a k c n) (hb:Raw w b k' c' m) (hk:len n<900000000) (qJ:len m<900000000):
 Calls prog 157 #[.slice a k c,.slice b k' c'] w (jU (Nat.gcd n m) w):=by
 go_enter func157,ntmps157
 go_wp2_with fail
 refine (fL _ _ _ _ _ ha).mono ?_;rintro e w1 ⟨a1,c1,rfl,r1,f1,x1⟩;go_wp2_with fail
 refine (fL _ _ _ _ _ (hb.ext x1)).mono ?_;rintro e w2 ⟨a2,c2,rfl,r2,f2,x2⟩;have HS:Hid (Od m n m 899999999 w (.slice a1 (len n) c1) (.slice a2 (len m) c2) w2):=⟨n,m,a1,a2,c1,c2,cG,rfl,ae,ae,r1.ext x2,r2,f1,f2.mono x1.size,x1.trans x2,rfl,rfl⟩;clear r1 r2 f1 f2 x1 x2;go_wp2_with fail
 go_loopg [0,1] m (λg s0 s1 wr=>Od g n m 899999999 w s0 s1 wr)
 case atStart=>exact HS.o
 case round=>
  obtain ⟨A,B,a,b,c,c',hg,NX,hlA,ZP,rA,rB,fA,fB,hx,rfl,rfl⟩:=hrel;have SG:=af NX;clear NX;by_cases hB:B=0
  .subst hB
   rw [nc];go_wp2
   go_ret;have hg0:=SG.o;rw [Nat.gcd_zero_right]at hg0;rw [<-hg0];exact ⟨_,_,rfl,rA,fA,hx⟩
  .have pB:=iy.2 (Nat.pos_of_ne_zero hB)
   go_wp2_with fail
   refine (Cc _ _ _ _ _ _ _ _ _ rA rB (Nat.pos_of_ne_zero hB) ae ae).mono ?_;rintro e w2 ⟨a2,c2,a3,c3,rfl,r2,f2,r3,f3,x2⟩;have hlt:=Nat.mod_lt A (Nat.pos_of_ne_zero hB);have Xf:=dt (Nat.le_of_lt hlt);go_wp2_with fail
   go_roundg (A % B)
   case measure=>omega
   case rel=>exact ⟨B,A % B,b,a3,c',c3,cG,by rw [<-SG.o,Nat.gcd_comm B,<-Nat.gcd_rec,Nat.gcd_comm],ZP,ae,rB.ext x2,r3,fB,f3.mono hx.size,hx.trans x2,rfl,rfl⟩
