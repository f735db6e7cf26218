/- Texts of the proof. -/
import Derived.Test.YtfokdakioeoniaaGreatCj3
import Derived.Test.YtfokdakioeoniaaGreatCj4
set_option linter.all false
set_option maxHeartbeats 2000000
set_option maxRecDepth 100000
namespace Go.Proofs.YtfokdakioeoniaaGreat
open Go.Proofs.Tryz
section
variable{U V lx ly p u2 v1 v2 top d rest:Nat}
theorem rV (hV:V=ly+p*(v2+4294967296*v1)):d*V=d*ly+p*(d*v2+4294967296*(d*v1)):=by
 rw [hV,Nat.mul_add,Nat.mul_left_comm d p,Nat.mul_add d,Nat.mul_left_comm d 4294967296]
theorem Ij (hU:U=lx+p*(u2+4294967296*top)) (hV:V=ly+p*(v2+4294967296*v1)) (hx:lx<p)
 (hd:d*v1+rest=top) (Wc:rest*4294967296+u2<d*v2):U<d*V:=by
 rw [rV hV];have h3:=Nat.mul_le_mul_left p (show u2+4294967296*top+1<=d*v2+4294967296*(d*v1) by omega);rw [Nat.mul_add p _ 1]at h3;omega
theorem Ik (hU:U=lx+p*(u2+4294967296*top)) (hV:V=ly+p*(v2+4294967296*v1)) (hy:ly<p) (h1:1<=v1)
 (hb:d<4294967296) (hd:d*v1+rest=top) (hle:d*v2<=rest*4294967296+u2):d*V<U+V:=by
 have e:=rV (d:=d) hV;have h3:=Nat.mul_le_mul_left p (show d*v2+4294967296*(d*v1)<=u2+4294967296*top by omega);have h4:d*ly<=4294967295*p:=Nat.mul_le_mul ae ae;have h5:=Nat.mul_le_mul_left p (show 4294967296*1<=v2+4294967296*v1 by omega);omega
theorem wX (hU:U=lx+p*(u2+4294967296*top)) (hV:V=ly+p*(v2+4294967296*v1)) (hy:ly<p) (h2:v2<4294967296)
 (hb:d<=4294967296) (hd:d*v1+rest=top) (hr:4294967296<=rest):d*V<=U:=by
 have e:=rV (d:=d) hV;have h4:d*ly<=4294967296*p:=Nat.mul_le_mul hb ae;have h6:d*v2<=4294967296*4294967295:=Nat.mul_le_mul hb ae;have h3:=Nat.mul_le_mul_left p (show d*v2+4294967296*(d*v1)+4294967296<=u2+4294967296*top by omega);rw [Nat.mul_add p _ 4294967296]at h3;omega
theorem EZ (hU:U=lx+p*(u2+4294967296*top)) (hV:V=ly+p*(v2+4294967296*v1)) (hx:lx<p) (hy:ly<p) (hu2:u2<4294967296) (h2:v2<4294967296)
 (hn:2147483648<=v1) (hlt:U<V*4294967296):U/V<=top/v1/\top/v1<=4294967297:=by
 have Lq:0<V:=by
  have:=Nat.mul_le_mul_left p (show 1<=v2+4294967296*v1 by omega);omega
 constructor
 .rw [Nat.le_div_iff_mul_le ae]
  have h0:=Nat.div_mul_le_self U V;generalize U/V=Q at*;have e:=rV (d:=Q) hV;apply Nat.le_of_lt_succ;apply Nat.lt_of_not_le;intro hc;have h3:=Nat.mul_le_mul_left p (show u2+4294967296*top+1<=Q*v2+4294967296*(Q*v1) by omega);rw [Nat.mul_add p _ 1]at h3;omega
 .apply Nat.le_of_lt_succ
  rw [Nat.div_lt_iff_lt_mul ae];apply Nat.lt_of_not_le;intro hc;have h3:=Nat.mul_le_mul_left p (show(v2+1+4294967296*v1)*4294967296<=u2+4294967296*top by omega);rw [<-Nat.mul_assoc,Nat.add_right_comm v2 1,Nat.mul_add p _ 1]at h3;omega
end
theorem JZ {U V d:Nat} (h0:0<V) (h:U<d*V):U/V+1<=d:=by
 have:=(Nat.div_lt_iff_lt_mul h0).2 h;omega
theorem Lr {U V d:Nat} (h0:0<V) (h:d*V<U+V):d<=U/V+1:=by
 apply Nat.le_of_lt_succ;have h1:=Nat.lt_div_mul_add h0 (a:=U);apply Nat.lt_of_not_le;intro hc;have h2:=Nat.mul_le_mul_right V hc;have h3:(U/V+1).succ*V=U/V*V+V+V:=by rw [Nat.succ_mul,Nat.add_mul,Nat.one_mul]
 omega
theorem CX {U V d:Nat} (h0:0<V) (h:d*V<=U):d<=U/V:=(Nat.le_div_iff_mul_le h0).2 h
theorem E4 {X Y r:List Nat} {i d c z c':Nat} (h1:i<X.length) (h2:i<Y.length) (hr:r.length=i)
 (hv:val r+d*val (Y.take i)=val (X.take i)+4294967296^i*c) (hz:z+(d*limb Y i+c)=limb X i+4294967296*c'):
 val (r++ [z])+d*val (Y.take (i+1))=val (X.take (i+1))+4294967296^(i+1)*c':=by
 rw [cY,fD,hr,cd h1,cd h2,Nat.pow_succ,Nat.mul_assoc,Nat.mul_add d,Nat.mul_left_comm d];generalize 4294967296^i=p at*
 have e2:p*z+(p*(d*limb Y i)+p*c)=p*limb X i+p*(4294967296*c'):=by
  rw [<-Nat.mul_add,<-Nat.mul_add,<-Nat.mul_add,hz]
 omega
theorem Ls {U V d R:Nat} (h0:0<V) (h:R+d*V=U) (hq:U/V<=d):d=U/V/\R=U % V:=by
 have h1:d<=U/V:=CX h0 ae;have e:d=U/V:=Nat.le_antisymm h1 hq;refine ⟨e,?_⟩;have:=Nat.div_add_mod' U V;rw [<-e]at this;omega
theorem Il {U V d R P T c:Nat} (h0:0<V) (hlt:U<d*V) (hq:d<=U/V+1) (hV:V<=P) (hR:R+d*V=U+P*4294967296) (hT:T+P*c=R+V) (ht:T<P):
 d=U/V+1/\c=4294967296/\T=U % V:=by
 have h1:=JZ h0 hlt;have e:d=U/V+1:=ae;have h2:=Nat.div_add_mod' U V;have h3:=Nat.mod_lt U h0;have h4:d*V=U/V*V+V:=by rw [e,Nat.add_mul,Nat.one_mul]
 have h5:T+P*c=U % V+P*4294967296:=ae;have hP:0<P:=ae
 have hc:c=4294967296:=by
  apply Nat.le_antisymm
  .apply Nat.le_of_not_lt;intro h
   have:=Nat.mul_le_mul_left P (show 4294967296+1<=c from h);rw [Nat.mul_add,Nat.mul_one]at this;omega
  .apply Nat.le_of_not_lt;intro h
   have:=Nat.mul_le_mul_left P (show c+1<=4294967296 from h);rw [Nat.mul_add,Nat.mul_one]at this;omega
 subst hc;exact ⟨e,rfl,ae⟩
theorem E5 {X:List Nat} {t:Nat} (h:X.length=t+3):val X=val (X.take t)+4294967296^t*(limb X t+4294967296*(limb X (t+1)+4294967296*limb X (t+2))):=by
 rw [jI X t ae,fK (show t+1<X.length by omega),fK (show t+1+1<X.length by omega),List.drop_of_length_le ae];simp [val]
theorem NL {X:List Nat} {t:Nat} (h:X.length=t+2):val X=val (X.take t)+4294967296^t*(limb X t+4294967296*limb X (t+1)):=by
 rw [jI X t ae,fK (show t+1<X.length by omega),List.drop_of_length_le ae];simp [val]
theorem iK {X:List Nat} (hs:Small X) {t:Nat} (h:t<=X.length):val (X.take t)<4294967296^t:=by
 have:=kA (hs.take t);rwa [List.length_take,Nat.min_eq_left h]at this
open Go.RowKit
def NM (k n:Nat) (w:World) (e:Ending) (w':World):Prop:= ∃r,e= .returned (.slice (some ⟨w.heap.size,0,none⟩) k k)/\r.length=k/\val r=n/\Small r/\aY w' w.heap.size 93 (dC r)/\Ext w w'
theorem NN (q x s:Nat) (hq:q<2^s) (hx:x<4294967296) (hs:s<32):bits BinOp.or IntKind.u64 (q:Int) (IntKind.u64.wrap ((x:Int)*2^s))=((q+x*2^s:Nat):Int)/\q+x*2^s<4294967296*2^s/\4294967296*2^s<=9223372036854775808:=by
 have h1:2^s<=2^31:=Nat.pow_le_pow_right ai ae;have h2:(x+1)*2^s<=4294967296*2^s:=Nat.mul_le_mul_right _ hx;rw [Nat.add_mul,Nat.one_mul]at h2;have h3:4294967296*2^s<=4294967296*2^31:=Nat.mul_le_mul_left _ h1;have e:((x:Int)*2^s)=((x*2^s:Nat):Int):=by push_cast;rfl
 refine ⟨?_,ae,ae⟩;rw [e,IntKind.wrap_u64]
 have e2:((x*2^s:Nat):Int) % 18446744073709551616=((x*2^s:Nat):Int):=by
  generalize x*2^s=z at*;omega
 rw [e2,u64_or_nat _ _ ae ae];have:=Nat.shiftLeft_add_eq_or_of_lt hq x;rw [Nat.shiftLeft_eq]at this;rw [Nat.or_comm,<-this,Nat.add_comm]
theorem NP {l r:List Nat} {j q s:Nat} (hj:j<l.length) (hr:r.length=j) (hv:val r+4294967296^j*q=val (l.take j)*2^s):
 val (r++ [(q+limb l j*2^s) % 4294967296])+4294967296^(j+1)*((q+limb l j*2^s)/4294967296)=val (l.take (j+1))*2^s:=by
 rw [cY,fD,hr,cd hj,Nat.pow_succ,Nat.mul_assoc,Nat.add_mul,Nat.mul_assoc];generalize 4294967296^j=p at*
 have e2:p*((q+limb l j*2^s) % 4294967296)+p*(4294967296*((q+limb l j*2^s)/4294967296))=p*q+p*(limb l j*2^s):=by
  rw [<-Nat.mul_add,Nat.mod_add_div,Nat.mul_add]
 omega
theorem wY (w:World) (a:Option Addr) (k c n s:Nat) (ha:Raw w a k c n) (h1:k<1000000000) (hs:s<32):
 Calls prog 293 #[.slice a k c,.int .i64 (s:Nat)] w (NM (k+1) (n*2^s) w):=by
 obtain ⟨l,hl,hv,hA⟩:=ha;have s1:=hA.small;have HL:=af hl;have HV:=af hv
 clear hl hv;go_enter func293,ntmps293
 go_wp2_with (at_make;refine bU _ rfl _ _ 59 rfl 93 (.int .u32 0) 4 underlying59 Tryz.info_u32 rfl _ _ (k+1) rfl rfl bq bq ae ae ?_;intro w1 kR hx1 hz1)
 go_loopw [6,15] (λcy i wr=> ∃(j q:Nat) (r:List Nat),j<=k/\Hid (r.length=j)/\Small r/\q<2^s/\Hid (val r+4294967296^j*q=val (l.take j)*2^s)/\Hid (aY wr w.heap.size 93 (dC (r++List.replicate (k+1-j) 0)))/\Ext w wr/\cy= .int .u64 q/\i= .int .i64 j) (λ_ i _=>k-(intOf i).toNat)
 case atStart=>exact ⟨0,0,[],bm,rfl,Small.nil,Nat.two_pow_pos _,(show _=_ by simp [val]),by have:=kR.o;rw [dv]at this;exact this,hx1,rfl,rfl⟩
 case round=>
  obtain ⟨j,q,r,hj,hr,hsm,hq,hval,dI,dU,rfl,rfl⟩:=hrel;by_cases h0:j<k
  .obtain ⟨p,o,rfl⟩:=hA.at (by rw [HL.o];omega)
   have hc:=(hA.ext dU).cellAt j (by rw [HL.o];omega);have hx:=bZ s1 j
   have hst:wr.cell? ⟨w.heap.size,j,none⟩=some (.int .u32 0):=by
    rw [dI.o.cell,fu _ _ (by simp [hr.o];omega)];simp [limb,hr.o,show 0<k+1-j from by omega]
   have qG:=dI.o.frozen j
   have kS: ∀(x:Nat) (v:Int),v=(x:Int)->aY (wr.setCell ⟨w.heap.size,j,none⟩ (.int .u32 v)) w.heap.size 93 (dC ((r++ [x])++List.replicate (k+1-(j+1)) 0)):=by
    intro x v hv;subst hv;have:=dI.o.set j (.int .u32 (x:Nat));rw [gz,List.set_append_right _ _ (by rw [hr.o];exact cG),hr.o,Nat.sub_self,show k+1-j=(k+1-(j+1))+1 from ae,List.replicate_succ,List.set_cons_zero]at this;rw [List.append_assoc];exact this
   have HN:=af kS;clear kS
   obtain ⟨e1,e2,e3⟩:=NN q (limb l j) s hq hx hs;have E1:=af e1;clear e1
   go_wp2
   rw [E1.o];refine ⟨⟨j+1,(q+limb l j*2^s)/4294967296,r++ [(q+limb l j*2^s) % 4294967296],ae,(show _=_ by simp [hr.o]),hsm.append (Small.one (Nat.mod_lt _ ai)),?_,NP (by rw [HL.o];omega) hr.o hval.o,HN.o _ _ ?_,dU.setCell cG _,?_,bq⟩,?_⟩
   .rw [Nat.div_lt_iff_lt_mul ai,Nat.mul_comm (2^s)];exact e2
   .rw [Int.natCast_emod];rfl
   .rw [Int.natCast_ediv];rfl
   .simp [intOf];omega
  .obtain rfl:j=k:=ae
   have hst:wr.cell? ⟨w.heap.size,j,none⟩=some (.int .u32 0):=by
    rw [dI.o.cell,fu _ _ (by simp [hr.o])];simp [limb,hr.o]
   have qG:=dI.o.frozen j;have h2s:2^s<=2^31:=Nat.pow_le_pow_right ai ae;have Wd:q<2147483648:=ae;have kS:=dI.o.set j (.int .u32 (q:Nat));rw [gz,List.set_append_right _ _ (by rw [hr.o];exact cG),hr.o,Nat.sub_self,show j+1-j=1 from by omega]at kS;simp only [List.replicate_succ,List.replicate_zero,List.set_cons_zero]at kS;have HN:=af kS;clear kS
   clear h2s;go_wp2
   go_ret;refine ⟨r++ [q],rfl,by simp [hr.o],?_,hsm.append (Small.one ae),HN.o,dU.setCell cG _⟩;rw [cY,fD,hr.o,hval.o,List.take_of_length_le (by rw [HL.o];exact cG),HV.o]
theorem CY (l:List Nat) (j:Nat): ∃D,val (l.drop j)=limb l j+4294967296*limb l (j+1)+18446744073709551616*D:=by
 by_cases h:j<l.length
 .rw [fK h]
  by_cases h':j+1<l.length
  .rw [fK h'];exact ⟨val (l.drop (j+1+1)),ae⟩
  .rw [List.drop_of_length_le ae,gK (i:=j+1) ae];exact ⟨0,by simp [val]⟩
 .rw [List.drop_of_length_le ae,gK (i:=j+1) ae,gK (i:=j) ae];exact ⟨0,by simp [val]⟩
theorem NQ {l r:List Nat} {j s:Nat} (hsm:Small l) (hs:s<32) (hj:j<l.length) (hr:r.length=j) (hv:val r=val l/2^s % 4294967296^j):
 val (r++ [(limb l j+4294967296*limb l (j+1))/2^s % 4294967296])=val l/2^s % 4294967296^(j+1):=by
 rw [cY,fD,hr,hv,Nat.mod_pow_succ];congr 2
 rw [Nat.div_div_eq_div_mul,Nat.mul_comm (2^s),<-Nat.div_div_eq_div_mul]
 have e1:val l/4294967296^j=val (l.drop j):=by
  have e:=lK l j ae;have hlt:=iK hsm (t:=j) ae;rw [e,Nat.add_mul_div_left _ _ (Nat.pow_pos ai),Nat.div_eq_of_lt hlt,Nat.zero_add]
 obtain ⟨D,hD⟩:=CY l j
 have e2:18446744073709551616*D=2^s*(4294967296*(2^(32-s)*D)):=by
  rw [Nat.mul_left_comm 4294967296,<-Nat.mul_assoc,<-Nat.pow_add,show s+(32-s)=32 from by omega];omega
 rw [e1,hD,e2,Nat.add_mul_div_left _ _ (Nat.two_pow_pos _),Nat.add_mul_mod_self_left]
theorem zj (w:World) (a:Option Addr) (k c n s:Nat) (ha:Raw w a k c n) (hs:s<32):
 Calls prog 295 #[.slice a k c,.int .i64 (s:Nat)] w (zi (n/2^s) w):=by
 have ha':=ha.cut;have la:=ha'.le;by_cases h0:n=0
 .subst h0
  go_enter func295,ntmps295
  go_wp2_with fail
  refine (cM _ _ _ _ _ ha).mono ?_;rintro e w' ⟨rfl,rfl⟩;rw [nc];go_wp2
  go_ret2
  rw [Nat.zero_div];exact ⟨none,0,rfl,Raw.nil _,Fr.none _,ah⟩
 .have hp:=iy.2 (Nat.pos_of_ne_zero h0)
  obtain ⟨l,hl,hv,hA⟩:=ha';obtain ⟨p,o,rfl⟩:=hA.at ae;have s1:=hA.small;have HL:=af hl;have HV:=af hv
  clear hl hv;have eI: ¬c=0:=ae;go_enter func295,ntmps295
  go_wp2_with fail
  refine (cM _ _ _ _ _ ha).mono ?_;rintro e w' ⟨rfl,rfl⟩;go_wp2_with (at_make;refine bU _ rfl _ _ 59 rfl 93 (.int .u32 0) 4 underlying59 Tryz.info_u32 rfl _ _ (len n) rfl rfl bq bq ae ae ?_;intro w1 kR hx1 hz1)
  rw [show s/32=0 from ae,show((s:Int) % 32)=(s:Int)from ae,Nat.add_zero,Nat.sub_zero];go_loopw [31] (λi wr=> ∃(j:Nat) (r:List Nat),j<=len n/\Hid (r.length=j)/\Small r/\Hid (val r=val l/2^s % 4294967296^j)/\Hid (aY wr w.heap.size 93 (dC (r++List.replicate (len n-j) 0)))/\Ext w wr/\i= .int .i64 j) (λi _=>len n-(intOf i).toNat)
  case atStart=>exact ⟨0,[],bm,rfl,Small.nil,(show _=_ by simp [val,Nat.mod_one]),by have:=kR.o;rw [dv]at this;exact this,hx1,rfl⟩
  case round=>
   obtain ⟨j,r,hj,hr,hsm,hval,dI,dU,rfl⟩:=hrel;by_cases h1:j<len n
   .have hc:=(hA.ext dU).cellAt j (by rw [HL.o];omega)
    have hx:=bZ s1 j
    have hst:wr.cell? ⟨w.heap.size,j,none⟩=some (.int .u32 0):=by
     rw [dI.o.cell,fu _ _ (by simp [hr.o];omega)];simp [limb,hr.o,show 0<len n-j from by omega]
    have qG:=dI.o.frozen j
    have kS: ∀(x:Nat) (v:Int),v=(x:Int)->aY (wr.setCell ⟨w.heap.size,j,none⟩ (.int .u32 v)) w.heap.size 93 (dC ((r++ [x])++List.replicate (len n-(j+1)) 0)):=by
     intro x v hv;subst hv;have:=dI.o.set j (.int .u32 (x:Nat));rw [gz,List.set_append_right _ _ (by rw [hr.o];exact cG),hr.o,Nat.sub_self,show len n-j=(len n-(j+1))+1 from ae,List.replicate_succ,List.set_cons_zero]at this;rw [List.append_assoc];exact this
    have HN:=af kS;clear kS
    have HS:=af (NQ s1 hs (by rw [HL.o];omega) hr.o hval.o);by_cases h2:j+1<len n
    .have hc':=(hA.ext dU).cellAt (j+1) (by rw [HL.o];omega)
     have hy:=bZ s1 (j+1);have E1:=af (Sw (limb l j) (limb l (j+1)) hx hy);go_wp2
     rw [E1.o];refine ⟨⟨j+1,_,ae,(show _=_ by simp [hr.o]),hsm.append (Small.one (Nat.mod_lt _ ai)),HS,HN.o _ _ ?_,dU.setCell cG _,bq⟩,?_⟩
     .rw [Int.natCast_emod,Int.natCast_ediv,Int.natCast_pow];rfl
     .simp [intOf];omega
    .have E1:=af (gK (l:=l) (i:=j+1) (by rw [HL.o];omega))
     go_wp2
     refine ⟨⟨j+1,_,ae,(show _=_ by simp [hr.o]),hsm.append (Small.one (Nat.mod_lt _ ai)),HS,HN.o _ _ ?_,dU.setCell cG _,bq⟩,?_⟩
     .rw [E1.o,Nat.mul_zero,Nat.add_zero,Int.natCast_emod,Int.natCast_ediv,Int.natCast_pow];rfl
     .simp [intOf];omega
   .obtain rfl:j=len n:=ae
    have oM:Raw wr (some ⟨w.heap.size,0,none⟩) (len n) (len n) (n/2^s):=by
     have h3:=dI.o;rw [Nat.sub_self,List.replicate_zero,List.append_nil]at h3;have h4:=h3.limbs hsm (by rw [hr.o];omega);rw [hr.o]at h4;refine ⟨r,hr.o,?_,h4⟩;rw [hval.o,HV.o,Nat.mod_eq_of_lt (Nat.lt_of_le_of_lt (Nat.div_le_self _ _) (js n))]
    have HR:=af oM;clear oM
    go_wp2_with (go_at_call 192;refine (cM _ _ _ _ _ HR.o).mono ?_;rintro e w' ⟨rfl,rfl⟩)
    go_ret2
    exact ⟨_,_,rfl,HR.o.cut,Fr.some cG,dU⟩
theorem tS {w:World} {b i:Nat} {T:TypeId} {A X C:List Nat} (h:aY w b T (dC (A++X++C))) (hi:i<X.length):w.cell? ⟨b,A.length+i,none⟩=some (.int .u32 (limb X i:Nat)):=by
 rw [h.cell,fu _ _ (by simp;omega)];congr 3
 unfold limb;rw [List.append_assoc,List.getElem?_append_right ae,Nat.add_sub_cancel_left,List.getElem?_append_left hi]
theorem uD {w:World} {b i:Nat} {T:TypeId} {A X C:List Nat} (h:aY w b T (dC (A++X++C))) (hi:i<X.length) (x:Nat) (v:Int) (hv:v=(x:Int)):aY (w.setCell ⟨b,A.length+i,none⟩ (.int .u32 v)) b T (dC (A++X.set i x++C)):=by
 subst hv;have:=h.set (A.length+i) (.int .u32 (x:Nat));rw [gz,List.append_assoc,List.set_append_right _ _ ae,Nat.add_sub_cancel_left,List.set_append_left _ _ hi,<-List.append_assoc]at this;exact this
def WQ (b:Nat) (A C:List Nat) (n U V:Nat) (w:World) (e:Ending) (w':World):Prop:=
 ∃r,e= .returned (.int .u32 (U/V:Nat))/\r.length=n+1/\Small r/\val r=U % V/\aY w' b 93 (dC (A++r++C))/\Touch b (b+1) w w'
theorem Im (x y d c:Nat) (hx:x<4294967296) (hy:y<4294967296) (hd:d<4294967296) (hc:c<4294967296):
 ∃z c':Nat,z+(d*y+c)=x+4294967296*c'/\z<4294967296/\c'<4294967296/\IntKind.u64.wrap ((x:Int)-((d:Int)*(y:Int)+(c:Int)) % 4294967296) % 4294967296=(z:Int)/\
  IntKind.u64.wrap (((d:Int)*(y:Int)+(c:Int))/4294967296+IntKind.u64.wrap ((x:Int)-((d:Int)*(y:Int)+(c:Int)) % 4294967296)/9223372036854775808)=(c':Int):=by
 have hp:d*y<=4294967295*4294967295:=Nat.mul_le_mul ae ae;rw [<-Int.natCast_mul,IntKind.wrap_u64,IntKind.wrap_u64];generalize d*y=t at*;by_cases h:x<(t+c) % 4294967296
 .exact ⟨x+4294967296-(t+c) % 4294967296,(t+c)/4294967296+1,ae,ae,ae,ae,ae⟩
 .exact ⟨x-(t+c) % 4294967296,(t+c)/4294967296,ae,ae,ae,ae,ae⟩
theorem uE {r X:List Nat} {i:Nat} (hr:r.length=i) (hi:i<X.length) (z:Nat):(r++X.drop i).set i z=(r++ [z])++X.drop (i+1):=by
 rw [List.set_append_right _ _ ae,hr,Nat.sub_self,List.drop_eq_getElem_cons hi,List.set_cons_zero,List.append_assoc];rfl
theorem uF {r X:List Nat} {i:Nat} (hr:r.length=i) (j:Nat) (h:i<=j):limb (r++X.drop i) j=limb X j:=by
 unfold limb;rw [List.getElem?_append_right ae,hr,List.getElem?_drop];congr 2;omega
theorem Bd (w:World) (bu bv cu cv n:Nat) (A X C Y:List Nat) (hne:bv≠bu) (hU:aY w bu 93 (dC (A++X++C))) (hX:X.length=n+1) (sX:Small X) (hcu:n+1<=cu) (agv:cu<=1099511627776)
 (hV:fN w (some ⟨bv,0,none⟩) cv Y) (hY:Y.length=n) (h2:2<=n) (aaY:2147483648<=limb Y (n-1)) (hlt:val X<val Y*4294967296):
 Calls prog 294 #[.slice (some ⟨bu,A.length,none⟩) ((n+1:Nat)) cu,.slice (some ⟨bv,0,none⟩) n cv] w (WQ bu A C n (val X) (val Y) w):=by
 have sY:=hV.small;have lv:=hV.le;have lv2:=hV.short;have cx2:=tS hU (i:=n) ae;have cx1:=tS hU (i:=n-1) ae;have cx0:=tS hU (i:=n-2) ae;have cy1:=hV.cellAt (n-1) ae;have cy0:=hV.cellAt (n-2) ae;rw [Nat.zero_add]at cy0 cy1;have bx2:=bZ sX n;have bx1:=bZ sX (n-1);have bx0:=bZ sX (n-2);have by1:=bZ sY (n-1);have WR:=bZ sY (n-2);have HT:=af (EP (limb X n) (limb X (n-1)) bx2 bx1);have dy1:(((limb Y (n-1):Nat):Int)==0)=false:=by rw [beq_eq_false_iff_ne];omega
 have aaZ:((limb Y (n-1):Nat):Int)≠0:=ae;have HX:=af hX;have HY:=af hY;clear hX hY
 have HU:=af hU;clear hU
 go_enter func294,ntmps294
 go_wp2_with fail
 go_quiet (fail)
 go_wp2_with fail
 rw [HT.o];have htb:limb X (n-1)+4294967296*limb X n<18446744073709551616:=ae;generalize Wc:limb X (n-1)+4294967296*limb X n=top at htb⊢;have HGT:=af Wc;clear Wc HT
 have g0:IntKind.i64.wrap ((n:Int)-1)=(n:Int)-1:=IntWalk.i64_in _ ae;have g1:(0:Int)<=(n:Int)-1:=ae;have g2:(n:Int)-1<(n:Int):=ae;have g3:((n:Int)-1).toNat=n-1:=ae;have g4:(1:Int)<=(n:Int):=ae;have g5:1<=n:=ae;go_quiet (fail)
 clear g0 g1 g2 g3
 have hUe:val X=val (X.take (n-2))+4294967296^(n-2)*(limb X (n-2)+4294967296*top):=by
  have:=E5 (X:=X) (t:=n-2) (by rw [HX.o];omega);rw [show n-2+1=n-1 from ae,show n-2+2=n from ae,HGT.o]at this;exact this
 have hVe:val Y=val (Y.take (n-2))+4294967296^(n-2)*(limb Y (n-2)+4294967296*limb Y (n-1)):=by
  have:=NL (X:=Y) (t:=n-2) (by rw [HY.o];omega);rw [show n-2+1=n-1 from by omega]at this;exact this
 have lx:=iK sX (t:=n-2) (by rw [HX.o];omega);have ly:=iK sY (t:=n-2) (by rw [HY.o];omega)
 have Lq:0<val Y:=by
  have:=Nat.mul_le_mul_left (4294967296^(n-2)) (show 1<=limb Y (n-2)+4294967296*limb Y (n-1) by omega);omega
 obtain ⟨jw,hf2⟩:=EZ hUe hVe lx ly bx0 WR aaY hlt;have WS:=af hUe;have WT:=af hVe;have Hlx:=af lx;have ZB:=af ly
 clear hUe hVe lx ly;have tR:val X/val Y<4294967296:=by rw [Nat.div_lt_iff_lt_mul Lq,Nat.mul_comm];exact hlt
 have Qf:=Nat.mod_lt top (show 0<limb Y (n-1) by omega);have hdm:=Nat.div_add_mod' top (limb Y (n-1))
 have e7:IntKind.u64.wrap ((top:Int)/((limb Y (n-1):Nat):Int))=((top/limb Y (n-1):Nat):Int):=by
  rw [<-Int.natCast_ediv,IntKind.wrap_u64];generalize top/limb Y (n-1)=z at*;omega
 have e8:((top:Int) % ((limb Y (n-1):Nat):Int))=((top % limb Y (n-1):Nat):Int):=by rw [Int.natCast_emod]
 rw [e7,e8];clear e7 e8;generalize top/limb Y (n-1)=d0 at*;generalize top % limb Y (n-1)=r0 at*;have ZC:=af hdm;clear hdm
 go_upto_block 0 with fail
 go_cut [7] (λd wx=> ∃dd:Nat,dd<4294967296/\val X/val Y<=dd/\dd<=val X/val Y+1/\Quiet w wx/\d= .int .u64 dd)
 case first=>
  go_wp2
  go_loopw [7,8] (λd r wr=> ∃(dd rr:Nat),Hid (dd*limb Y (n-1)+rr=top)/\rr<4294967296/\dd<=4294967297/\Hid (val X/val Y<=dd)/\Quiet w wr/\d= .int .u64 dd/\r= .int .u64 rr) (λd _ _=>(intOf d).toNat)
  case atStart=>exact ⟨d0,r0,ZC,ae,hf2,jw,(Quiet.refl _).drewN _|>.drewN _,rfl,rfl⟩
  case round=>
   obtain ⟨dd,rr,hdr,Lt,hdd,hqd,hq,rfl,rfl⟩:=hrel;obtain ⟨nq2,rfl⟩:=hq;by_cases hB:dd<4294967296
   .have b1:(((dd:Int)/4294967296) !=0)=false:=by simp;omega
    have Sz:=EP rr (limb X (n-2)) Lt bx0;have qN:dd*limb Y (n-2)<=4294967295*4294967295:=Nat.mul_le_mul ae ae
    have J0:IntKind.u64.wrap ((dd:Int)*((limb Y (n-2):Nat):Int))=(dd:Int)*((limb Y (n-2):Nat):Int):=by
     rw [<-Int.natCast_mul,IntKind.wrap_u64];omega
    have g0:IntKind.i64.wrap ((n:Int)-2)=(n:Int)-2:=IntWalk.i64_in _ ae;have g1:(0:Int)<=(n:Int)-2:=ae;have g2:(n:Int)-2<(n:Int):=ae;have g3:((n:Int)-2).toNat=n-2:=ae;have g6:(2:Int)<=(n:Int):=ae;by_cases Wc:rr*4294967296+limb X (n-2)<dd*limb Y (n-2)
    .have b2:decide (((limb X (n-2):Nat):Int)+4294967296*(rr:Int)<(dd:Int)*((limb Y (n-2):Nat):Int))=true:=by
      rw [<-Int.natCast_mul];simp;omega
     have wZ:1<=dd:=Nat.pos_of_ne_zero (λh=>by rw [h,Nat.zero_mul]at Wc;omega);have WU:val X/val Y+1<=dd:=JZ Lq (Ij WS.o WT.o Hlx.o hdr.o Wc)
     have hmul:(dd-1)*limb Y (n-1)+(rr+limb Y (n-1))=top:=by
      have h9:=hdr.o
      have h8:(dd-1)*limb Y (n-1)+limb Y (n-1)=dd*limb Y (n-1):=by
       rw [<-Nat.succ_mul];congr 1;omega
      omega
     have HM:=af hmul;clear hmul
     have WV:=af WU;clear WU
     have dw:((dd:Int)-1)=((dd-1:Nat):Int):=ae;have DW:=af dw;clear dw
     by_cases hbr:rr+limb Y (n-1)<4294967296
     .have b3:((((rr:Int)+((limb Y (n-1):Nat):Int))/4294967296) !=0)=false:=by simp;omega
      go_wp2_with fail
      go_quiet (fail)
      go_wp2_with fail
      rw [DW.o]
      go_roundw
      case rel=>exact ⟨dd-1,rr+limb Y (n-1),HM,hbr,ae,(show _<=_ by have:=WV.o;omega),⟨_,rfl⟩,rfl,bq⟩
      case measure=>simp [intOf];omega
     .have b3:((((rr:Int)+((limb Y (n-1):Nat):Int))/4294967296) !=0)=true:=by simp;omega
      go_wp2_with fail
      go_quiet (fail)
      go_wp2_with fail
      rw [DW.o]
      go_meet
      have h1:=wX WS.o WT.o ZB.o WR (d:=dd-1) ae HM.o ae;have h2:=CX Lq h1;have h3:=WV.o;exact ⟨dd-1,ae,ae,ae,⟨_,rfl⟩,rfl⟩
    .have b2:decide (((limb X (n-2):Nat):Int)+4294967296*(rr:Int)<(dd:Int)*((limb Y (n-2):Nat):Int))=false:=by
      rw [<-Int.natCast_mul];simp;omega
     go_wp2_with fail
     go_quiet (fail)
     go_wp2
     go_meet
     have h1:=Ik WS.o WT.o ZB.o ae hB hdr.o ae;exact ⟨dd,hB,hqd.o,Lr Lq h1,((Quiet.refl _).drewN _).drewN _,rfl⟩
   .have b1:(((dd:Int)/4294967296) !=0)=true:=by simp;omega
    have wZ:1<=dd:=ae;have WU:val X/val Y+1<=dd:=ae
    have hmul:(dd-1)*limb Y (n-1)+(rr+limb Y (n-1))=top:=by
     have h9:=hdr.o
     have h8:(dd-1)*limb Y (n-1)+limb Y (n-1)=dd*limb Y (n-1):=by
      rw [<-Nat.succ_mul];congr 1;omega
     omega
    have HM:=af hmul;clear hmul
    have WV:=af WU;clear WU
    have dw:((dd:Int)-1)=((dd-1:Nat):Int):=ae;have DW:=af dw;clear dw
    by_cases hbr:rr+limb Y (n-1)<4294967296
    .have b3:((((rr:Int)+((limb Y (n-1):Nat):Int))/4294967296) !=0)=false:=by simp;omega
     go_wp2_with fail
     go_quiet (fail)
     go_wp2_with fail
     rw [DW.o]
     go_roundw
     case rel=>exact ⟨dd-1,rr+limb Y (n-1),HM,hbr,ae,(show _<=_ by have:=WV.o;omega),⟨_,rfl⟩,rfl,bq⟩
     case measure=>simp [intOf];omega
    .have b3:((((rr:Int)+((limb Y (n-1):Nat):Int))/4294967296) !=0)=true:=by simp;omega
     go_wp2_with fail
     go_quiet (fail)
     go_wp2_with fail
     rw [DW.o]
     go_meet
     have h1:=wX WS.o WT.o ZB.o WR (d:=dd-1) ae HM.o ae;have h2:=CX Lq h1;have h3:=WV.o;exact ⟨dd-1,ae,ae,ae,⟨_,rfl⟩,rfl⟩
 case rest=>
  obtain ⟨dd,hdB,pE,BU,hq,rfl⟩:=hcut;have vD:=af pE;have CZ:=af BU;clear pE BU
  obtain ⟨nq3,rfl⟩:=hq;clear cx2 cx1 cx0 cy1 cy0 dy1 aaZ g4 g5 bx0 bx1 WR by1 jw hf2 Qf ZC HGT WS WT Hlx ZB;go_wp2
  go_loopw [9,86] (λcy i wr=> ∃(j c:Nat) (r:List Nat),j<=n/\Hid (r.length=j)/\Small r/\c<4294967296/\Hid (val r+dd*val (Y.take j)=val (X.take j)+4294967296^j*c)/\Hid (aY wr bu 93 (dC (A++(r++X.drop j)++C)))/\Touch bu (bu+1) w wr/\cy= .int .u64 c/\i= .int .i64 j) (λ_ i _=>n-(intOf i).toNat)
  case atStart=>exact ⟨0,0,[],bm,rfl,Small.nil,ae,(show _=_ by simp [val]),(show aY _ _ _ _ by simpa using HU.o.ext (ah.drewN _)),(Touch.refl _ _ _).drewN _,rfl,rfl⟩
  case round=>
   obtain ⟨j,c,r,hj,hr,hsm,hc,hval,dI,Be,rfl,rfl⟩:=hrel;by_cases h0:j<n
   .have hyc:=(hV.bH Be (λx e=>by cases e;simp only;omega)).cellAt j (by rw [HY.o];omega)
    rw [Nat.zero_add]at hyc;have SA:=tS dI.o (i:=j) (by simp [hr.o,HX.o];omega);rw [uF hr.o j cG]at SA;have qG:=dI.o.frozen (A.length+j);have hx:=bZ sX j;have hy:=bZ sY j;have qH:dd*limb Y j<=4294967295*4294967295:=Nat.mul_le_mul ae ae;have Bc:(dd:Int)*((limb Y j:Nat):Int)<=18446744065119617025:=by rw [<-Int.natCast_mul];omega
    have aaV:0<=(dd:Int)*((limb Y j:Nat):Int):=by rw [<-Int.natCast_mul];omega
    obtain ⟨z,c',e0,hz,hc',e1,e2⟩:=Im (limb X j) (limb Y j) dd c hx hy hdB hc;have E0:=af e0;have E1:=af e1;have E2:=af e2;clear e0 e1 e2
    have HN:=af (λv hv=>uD dI.o (i:=j) (by simp [hr.o,HX.o];omega) z v hv);go_wp2_with fail
    rw [E1.o,E2.o];refine ⟨⟨j+1,c',r++ [z],ae,(show _=_ by simp [hr.o]),hsm.append (Small.one hz),hc',E4 (by rw [HX.o];omega) (by rw [HY.o];omega) hr.o hval.o E0.o,?_,Be.setCell cG (Nat.lt_succ_self _) _,rfl,bq⟩,?_⟩
    .have:=HN.o _ rfl
     rw [uE hr.o (by rw [HX.o];omega)]at this;exact this
    .simp [intOf];omega
   .obtain rfl:j=n:=ae
    have SA:=tS dI.o (i:=j) (by simp [hr.o,HX.o]);rw [uF hr.o j cG]at SA;have qG:=dI.o.frozen (A.length+j);have tY:Y.take j=Y:=List.take_of_length_le (by rw [HY.o];exact cG);have eX:=cd (l:=X) (k:=j) (by rw [HX.o];omega);rw [List.take_of_length_le (by rw [HX.o];exact cG)]at eX;have hv2:=hval.o;rw [tY]at hv2;have QG:=af eX;have J1:=af hv2;have HTY:=af tY
    clear eX hv2 tY
    have uG: ∀z:Nat,(r++X.drop j).set j z=r++ [z]:=by
     intro z;rw [uE hr.o (by rw [HX.o];omega),List.drop_of_length_le (by rw [HX.o];exact cG),List.append_nil]
    have WW:=af uG;clear uG
    by_cases TV:c<=limb X j
    .have e3:IntKind.u64.wrap (((limb X j:Nat):Int)-(c:Int))=((limb X j-c:Nat):Int):=by rw [IntKind.wrap_u64];omega
     have ZE:limb X j-c<4294967296:=ae
     have kd:dd=val X/val Y/\val (r++ [limb X j-c])=val X % val Y:=by
      refine Ls Lq ?_ vD.o;have h5:=QG.o;have h6:=J1.o;rw [cY,fD,hr.o];have h7:4294967296^j*(limb X j-c)+4294967296^j*c=4294967296^j*limb X j:=by rw [<-Nat.mul_add,Nat.sub_add_cancel TV]
      omega
     have HF:=af kd;clear kd
     have HN:=af (λv hv=>uD dI.o (i:=j) (by simp [hr.o,HX.o]) (limb X j-c) v hv);generalize limb X j-c=D at*;have b5:(((D:Int)/9223372036854775808)==0)=true:=by simp;omega
     have E3:=e3;go_wp2
     go_ret;refine ⟨r++ [D],by rw [<-HF.o.1];rfl,by simp [hr.o],hsm.append (Small.one ZE),HF.o.2,?_,Be.setCell cG (Nat.lt_succ_self _) _⟩;have:=HN.o _ rfl;rw [WW.o]at this;exact this
    .have agF:limb X j<c:=ae
     have e3:IntKind.u64.wrap (((limb X j:Nat):Int)-(c:Int))=((limb X j+18446744073709551616-c:Nat):Int):=by rw [IntKind.wrap_u64];omega
     have ZE:limb X j+4294967296-c<4294967296:=ae;have hDm:(limb X j+18446744073709551616-c) % 4294967296=limb X j+4294967296-c:=ae;have hDl:9223372036854775808<=limb X j+18446744073709551616-c/\limb X j+18446744073709551616-c<18446744073709551616:=ae
     have hR:val (r++ [limb X j+4294967296-c])+dd*val Y=val X+4294967296^j*4294967296:=by
      have h5:=QG.o;have h6:=J1.o;rw [cY,fD,hr.o];have h7:4294967296^j*(limb X j+4294967296-c)+4294967296^j*c=4294967296^j*limb X j+4294967296^j*4294967296:=by rw [<-Nat.mul_add,<-Nat.mul_add,Nat.sub_add_cancel ae]
      omega
     have mr:val X<dd*val Y:=by
      have h8:=kA (hsm.append (Small.one ZE));rw [List.length_append,hr.o,List.length_singleton,Nat.pow_succ]at h8;omega
     have HR:=af hR;have BV:=af mr;clear hR mr
     have HN:=af (λv hv=>uD dI.o (i:=j) (by simp [hr.o,HX.o]) (limb X j+4294967296-c) v hv);have wZ:1<=dd:=Nat.pos_of_ne_zero (λh=>by have:=BV.o;rw [h,Nat.zero_mul]at this;omega);generalize limb X j+18446744073709551616-c=D at*;generalize limb X j+4294967296-c=D' at*;have b5:(((D:Int)/9223372036854775808)==0)=false:=by simp;omega
     have e4:(D:Int) % 4294967296=(D':Int):=ae;have ZC:=af hDm;clear hDm
     have E3:=e3;go_wp2_with fail
     have hW0:Hid (aY (wr.setCell ⟨bu,A.length+j,none⟩ (.int .u32 (D':Nat))) bu 93 (dC (A++(r++ [D'])++C))):=by
      have:=HN.o _ rfl;rw [WW.o]at this;exact this
     have hT0:Touch bu (bu+1) w (wr.setCell ⟨bu,A.length+j,none⟩ (.int .u32 (D':Nat))):=Be.setCell cG (Nat.lt_succ_self _) _;have sX1:=hsm.append (Small.one ZE);have NR:(r++ [D']).length=j+1:=by simp [hr.o]
     have jZ:=af NR;have SB:limb (r++ [D']) j=D':=by unfold limb;rw [List.getElem?_append_right (by rw [hr.o];exact cG),hr.o,Nat.sub_self];rfl
     have HLA:=af SB;clear SB NR
     generalize wr.setCell ⟨bu,A.length+j,none⟩ (.int .u32 (D':Nat))=w4 at*;clear HN WW dI Be SA qG b5 e4 e3 E3 ZC QG J1;generalize r++ [D']=X1 at*;go_loopw [9,136] (λcy i wr=> ∃(t c:Nat) (s:List Nat),t<=j/\Hid (s.length=t)/\Small s/\c<=1/\Hid (val s+4294967296^t*c=val (X1.take t)+val (Y.take t))/\Hid (aY wr bu 93 (dC (A++(s++X1.drop t)++C)))/\Touch bu (bu+1) w wr/\cy= .int .u64 c/\i= .int .i64 t) (λ_ i _=>j-(intOf i).toNat)
     case atStart=>exact ⟨0,0,[],bm,rfl,Small.nil,ae,(show _=_ by simp [val]),(show aY _ _ _ _ by simpa using hW0.o),hT0,rfl,rfl⟩
     case round=>
      obtain ⟨t,c1,s,ht,hs,We,hc1,hvs,Lu,TX,rfl,rfl⟩:=hrel;by_cases h1:t<j
      .have hyc:=(hV.bH TX (λx e=>by cases e;simp only;omega)).cellAt t (by rw [HY.o];omega)
       rw [Nat.zero_add]at hyc;have SA:=tS Lu.o (i:=t) (by simp [hs.o,jZ.o];omega);rw [uF hs.o t cG]at SA;have qG:=Lu.o.frozen (A.length+t);have hx:=bZ sX1 t;have hy:=bZ sY t;have HN:=af (λv hv=>uD Lu.o (i:=t) (by simp [hs.o,jZ.o];omega) ((c1+limb X1 t+limb Y t) % 4294967296) v hv);have HA:=af (qM (L:=X1) (M:=Y) (cy:=c1) (i:=t) (by rw [jZ.o];omega) hs.o hvs.o (by rw [HY.o];omega));go_wp2_with fail
       refine ⟨⟨t+1,(c1+limb X1 t+limb Y t)/4294967296,s++ [(c1+limb X1 t+limb Y t) % 4294967296],ae,(show _=_ by simp [hs.o]),We.append (Small.one (Nat.mod_lt _ ai)),ae,HA,?_,TX.setCell cG (Nat.lt_succ_self _) _,?_,bq⟩,?_⟩
       .have:=HN.o _ (show((c1:Int)+(((limb X1 t:Nat):Int)+((limb Y t:Nat):Int))) % 4294967296=_ by omega)
        rw [uE hs.o (by rw [jZ.o];omega)]at this;exact this
       .congr 1;omega
       .simp [intOf];omega
      .obtain rfl:t=j:=ae
       have SA:=tS Lu.o (i:=t) (by simp [hs.o,jZ.o]);rw [uF hs.o t cG,HLA.o]at SA;have qG:=Lu.o.frozen (A.length+t);have hvY:=hvs.o;rw [HTY.o]at hvY;have eX:=cd (l:=X1) (k:=t) (by rw [jZ.o];omega);rw [List.take_of_length_le (by rw [jZ.o];exact cG),HLA.o]at eX;have ZF:=kA We;rw [hs.o]at ZF;have WX:=kA sY;rw [HY.o]at WX;have kd:=Il (P:=4294967296^t) (T:=val s) (c:=D'+c1) Lq BV.o CZ.o ae HR.o (by rw [Nat.mul_add];omega) ZF;obtain ⟨f1,f2,f3⟩:=kd;have F1:=af f1;have F3:=af f3;clear f1 f3 hvY eX ZF WX
       have e6:IntKind.u32.wrap ((D':Int)+(c1:Int))=0:=by
        rw [show(D':Int)+(c1:Int)=4294967296 from by omega];decide
       have E9:(D':Int)+(c1:Int)=4294967296:=ae;have TY:=af E9;have Qg:=af f2;clear E9 f2
       have HN:=af (λv hv=>uD Lu.o (i:=t) (by simp [hs.o,jZ.o]) 0 v hv);go_wp2
       go_ret;refine ⟨s++ [0],cL (dB F1.o),by simp [hs.o],We.append (Small.one ai),?_,?_,TX.setCell cG (Nat.lt_succ_self _) _⟩
       .rw [cY,fD,Nat.mul_zero,Nat.add_zero,F3.o]
       .have:=HN.o _ rfl
        rw [uE hs.o (by rw [jZ.o];omega),List.drop_of_length_le (by rw [jZ.o];exact cG),List.append_nil]at this;exact this
