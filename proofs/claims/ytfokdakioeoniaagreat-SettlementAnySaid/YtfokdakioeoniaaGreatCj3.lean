/- Texts of the proof. -/
import Derived.Test.YtfokdakioeoniaaGreatCj2
set_option linter.all false
set_option maxHeartbeats 2000000
set_option maxRecDepth 100000
namespace Go.Proofs.YtfokdakioeoniaaGreat
open Go.Proofs.Tryz
theorem fD (x:Nat):val [x]=x:=by simp [val]
theorem lL (n:Nat):val (List.replicate n 0)=0:=by
 induction n with
 |zero=>rfl
 |succ n ih=>simp [List.replicate_succ,val,ih]
theorem bZ {l:List Nat} (h:Small l) (i:Nat):limb l i<4294967296:=by
 unfold limb;by_cases hi:i<l.length
 .rw [List.getElem?_eq_getElem hi];exact h _ (List.getElem_mem hi)
 .rw [List.getElem?_eq_none ae];simp
theorem vG {l:List Nat} {k:Nat} (h:k<l.length):l.take (k+1)=l.take k++ [limb l k]:=by
 rw [List.take_succ_eq_append_getElem h];simp [limb,h]
theorem cd {l:List Nat} {k:Nat} (h:k<l.length):val (l.take (k+1))=val (l.take k)+4294967296^k*limb l k:=by
 rw [vG h,cY,fD,List.length_take,Nat.min_eq_left ae]
theorem fK {l:List Nat} {k:Nat} (h:k<l.length):val (l.drop k)=limb l k+4294967296*val (l.drop (k+1)):=by
 rw [List.drop_eq_getElem_cons h];simp [val,limb,h]
theorem vH {l m:List Nat} {i:Nat} (h:i<l.length):limb (l++m) i=limb l i:=by
 unfold limb;rw [List.getElem?_append_left h]
theorem TT {n k:Nat}:k<len n↔4294967296^k<=n:=by
 have:= @cg n k;omega
theorem lX {n:Nat}:len n=0↔n=0:=by
 have:= @cg n 0;simp at this;omega
theorem iy {n:Nat}:0<len n↔0<n:=by
 have:= @lX n;omega
theorem Ic {n:Nat}:len n<=1↔n<4294967296:=by have:= @cg n 1;simpa using this
theorem gA {n:Nat}:len n<=2↔n<18446744073709551616:=by have:= @cg n 2;simpa using this
theorem JW {l:List Nat} (h:Small l) (h1:0<l.length) (h2:limb l (l.length-1)≠0):len (val l)=l.length:=by
 have h3:=tP h;have h4:=cd (l:=l) (k:=l.length-1) ae;rw [show l.length-1+1=l.length from ae,List.take_length]at h4
 have h5:4294967296^(l.length-1)<=val l:=by
  rw [h4];have:4294967296^(l.length-1)*1<=4294967296^(l.length-1)*limb l (l.length-1):=Nat.mul_le_mul_left _ ae;omega
 have:=TT.2 h5;omega
theorem val_inj: ∀{l m:List Nat},Small l->Small m->l.length=m.length->val l=val m->l=m
 | [],[],_,_,_,_=>rfl
 |x::xs,y::ys,hl,hm,h,hv=>by
  have a:=hl x (List.mem_cons_self ..);have b:=hm y (List.mem_cons_self ..);simp only [val]at hv;simp only [List.length_cons]at h;have e:val xs=val ys:=ae;have e':x=y:=ae;rw [val_inj hl.tail hm.tail ae e,e']
theorem nZ {l:List Nat} (h:Small l) (h1:0<l.length) (h2:l.length=len (val l)):limb l (l.length-1)≠0:=by
 intro h3;have h4:=cd (l:=l) (k:=l.length-1) ae;rw [show l.length-1+1=l.length from ae,List.take_length,h3]at h4;have h5:=kA (h.take (l.length-1));rw [List.length_take,Nat.min_eq_left ae]at h5;have h6:len (val l)<=l.length-1:=cg.2 ae;omega
theorem jI (l:List Nat) (k:Nat) (h:k<l.length):val l=val (l.take k)+4294967296^k*(limb l k+4294967296*val (l.drop (k+1))):=by
 rw [<-fK h];exact lK l k ae
theorem rT {l m:List Nat} (hl:Small l) {k:Nat} (h1:k<l.length) (h2:k<m.length) (hd:val (l.drop (k+1))=val (m.drop (k+1))) (hlt:limb l k<limb m k):val l<val m:=by
 rw [jI l k h1,jI m k h2,hd];have h3:=kA (hl.take k);rw [List.length_take,Nat.min_eq_left ae]at h3;generalize val (m.drop (k+1))=d at*
 have h4:4294967296^k*(limb l k+4294967296*d)+4294967296^k<=4294967296^k*(limb m k+4294967296*d):=by
  rw [<-Nat.mul_succ];exact Nat.mul_le_mul_left _ ae
 omega
theorem yF {l:List Nat} {k:Nat} (h:k<l.length) (x:Nat):val (l.set k x)+4294967296^k*limb l k=val l+4294967296^k*x:=by
 have h1:=jI l k h;have h2:=jI (l.set k x) k (by simpa using h);rw [List.take_set_of_le ae,List.drop_set_of_lt ae]at h2;have h3:limb (l.set k x) k=x:=by simp [limb,h]
 rw [h3]at h2;rw [Nat.mul_add]at h1 h2;omega
theorem n9 {l:List Nat} {k t:Nat} (h:k≠t) (x:Nat):limb (l.set k x) t=limb l t:=by simp [limb,h]
theorem EU {l:List Nat} {k:Nat} (h:k<l.length) (x:Nat):limb (l.set k x) k=x:=by simp [limb,h]
theorem nj (n i:Nat):limb (List.replicate n 0) i=0:=by
 unfold limb;by_cases h:i<n<;>simp [h]
theorem gK {l:List Nat} {i:Nat} (h:l.length<=i):limb l i=0:=by unfold limb;rw [List.getElem?_eq_none h];rfl
theorem oL {L M r:List Nat} {i q x y z q':Nat} (h1:i<L.length) (hr:r.length=i) (hv:val r+val (M.take i)=val (L.take i)+4294967296^i*q) (hM:i<M.length\/M.length<=i)
 (hx:limb L i=x) (hy:limb M i=y) (hz:z+y+q=x+4294967296*q'):
 val (r++ [z])+val (M.take (i+1))=val (L.take (i+1))+4294967296^(i+1)*q':=by
 rw [cY,fD,hr,cd h1,hx]
 have e:val (M.take (i+1))=val (M.take i)+4294967296^i*y:=by
  rcases hM with h|h
  .rw [<-hy];exact cd h
  .rw [List.take_of_length_le ae,List.take_of_length_le ae,<-hy,gK h];simp
 rw [e,Nat.pow_succ,Nat.mul_assoc];generalize 4294967296^i=p at*
 have e2:p*z+p*y+p*q=p*x+p*(4294967296*q'):=by
  rw [<-Nat.mul_add,<-Nat.mul_add,<-Nat.mul_add,hz]
 omega
theorem uB {l:List Nat} {i:Nat} (h:i<l.length) (x:Nat):val ((l.set i x).drop i)=x+4294967296*val (l.drop (i+1)):=by
 rw [fK (by simpa using h),EU h,List.drop_set_of_lt ae]
theorem NI {V d r x R:Nat} (h0:0<d) (hr:r<d) (hx:x<4294967296) (hv:V*d+r=R):
 ((x+4294967296*r)/d+4294967296*V)*d+(x+4294967296*r) % d=x+4294967296*R/\(x+4294967296*r)/d<4294967296:=by
 constructor
 .have:=Nat.div_add_mod (x+4294967296*r) d
  rw [Nat.add_mul,Nat.mul_assoc,Nat.mul_comm _ d,<-hv];omega
 .rw [Nat.div_lt_iff_lt_mul h0]
  have:4294967296*(r+1)<=4294967296*d:=Nat.mul_le_mul_left _ hr;omega
open Go.RowKit Go.Sort
theorem cM (w:World) (a:Option Addr) (k c n:Nat) (h:Raw w a k c n):
 Calls prog 192 #[.slice a k c] w λe w'=>e= .returned (.slice a (len n) c)/\w=w':=by
 obtain ⟨l,rfl,rfl,h⟩:=h;have h1:=h.le;have h2:=h.cap;go_enter func192,ntmps192
 go_wp2
 go_loop [3] (λi=> ∃k:Nat,k<=l.length/\val (l.take k)=val l/\i= .int .i64 k) (λi=>(intOf i).toNat)
 case atStart=>exact ⟨_,cG,by rw [List.take_length],rfl⟩
 case round=>
  obtain ⟨k,hk,hv,rfl⟩:=hrel;have HV:=af hv;clear hv
  by_cases h0:0<k
  .obtain ⟨b,o,rfl⟩:=h.at ae
   have hc:=h.cellAt (k-1) ae;by_cases hz:limb l (k-1)=0
   .have hz':((limb l (k-1):Nat):Int)=0:=ae
    rw [hz']at hc;have HZ:=af hz;clear hz hz'
    go_wp2
    go_round
    case rel=>
     refine ⟨k-1,ae,?_,bq⟩;have:=cd (l:=l) (k:=k-1) ae;rw [HZ.o,show k-1+1=k from ae,HV.o]at this;rw [this];simp
    case measure=>simp [intOf];omega
   .have hz':(((limb l (k-1):Nat):Int)==0)=false:=by rw [beq_eq_false_iff_ne];omega
    have HZ:=af hz;clear hz
    go_wp2
    go_ret
    have e:len (val l)=k:=by
     rw [<-HV.o];have:=JW (h.small.take k) (by rw [List.length_take];omega) (by rw [List.length_take,Nat.min_eq_left hk,vF ae];exact HZ.o);rw [this,List.length_take,Nat.min_eq_left hk]
    exact ⟨BR e.symm,rfl⟩
  .go_wp2
   go_ret
   have e:len (val l)=k:=by
    rw [<-HV.o,show k=0 from by omega];rfl
   exact ⟨BR e.symm,rfl⟩
theorem qK (w:World) (a:Option Addr) (k c n:Nat) (h:Raw w a k c n) (hk:k<=2):
 Calls prog 227 #[.slice a k c] w λe w'=>e= .returned (.int .u64 (n:Nat))/\w=w':=by
 obtain ⟨l,rfl,rfl,h⟩:=h;have hs:=h.small;match l,hk,h,hs with
 | [],_,h,_=>
   go_enter func227,ntmps227
   go_wp2
   refine wp_loop_rounds 1 ?_;rw [rounds_succ]
   go_wp2
   go_ret;exact ⟨rfl,rfl⟩
 | [x],_,h,hs=>
   obtain ⟨b,o,rfl⟩:=h.at aX;have hc:=h.cellAt 0 aX;have hx:=hs x aX;simp [limb]at hc;go_enter func227,ntmps227
   go_wp2
   refine wp_loop_rounds 2 ?_;rw [rounds_succ]
   go_wp2
   rw [rounds_succ];go_wp2
   go_ret;exact ⟨cL (by simp [val];exact or_zero x ae),rfl⟩
 | [x,y],_,h,hs=>
   obtain ⟨b,o,rfl⟩:=h.at aX;have hc:=h.cellAt 0 aX;have hc1:=h.cellAt 1 aX;have hx:=hs x aX;have hy:=hs y aX;simp [limb]at hc hc1;go_enter func227,ntmps227
   go_wp2
   refine wp_loop_rounds 3 ?_;rw [rounds_succ]
   go_wp2
   rw [rounds_succ];go_wp2
   rw [rounds_succ];go_wp2
   go_ret;exact ⟨cL (by rw [or_zero x ae,Sw x y hx hy];simp [val]),rfl⟩
theorem cS (w:World) (a:Option Addr) (k c n:Nat) (h:Raw w a k c n) (hn:n<18446744073709551616):
 Calls prog 142 #[.slice a k c] w λe w'=>e= .returned (.tuple #[.int .u64 (n:Nat),.bool true])/\w=w':=by
 have h2:=gA.2 hn;have hc:=h.cut;go_enter func142,ntmps142
 go_wp2_with (first|(go_at_call 192;refine (cM _ _ _ _ _ h).mono ?_;rintro e w' ⟨rfl,rfl⟩)|(go_at_call 227;refine (qK _ _ _ _ _ hc h2).mono ?_;rintro e w' ⟨rfl,rfl⟩))
 go_ret2
 exact ⟨rfl,rfl⟩
theorem lM (w:World) (a:Option Addr) (k c n:Nat) (h:Raw w a k c n) (hn:18446744073709551616<=n):
 Calls prog 142 #[.slice a k c] w λe w'=>e= .returned (.tuple #[.int .u64 0,.bool false])/\w=w':=by
 have h2:2<len n:=dB (@gA n);have hc:=h.cut;go_enter func142,ntmps142
 go_wp2_with (first|(go_at_call 192;refine (cM _ _ _ _ _ h).mono ?_;rintro e w' ⟨rfl,rfl⟩))
 go_ret2
 exact ⟨rfl,rfl⟩
theorem dD (w:World) (n:Nat) (hn:n<18446744073709551616):
 Calls prog 191 #[.int .u64 (n:Nat)] w (jU n w):=by
 have hr:Raw (w.alloc (Obj.cells #[.int .u32 ((n:Int) % 4294967296),.int .u32 ((n:Int)/4294967296)] 93)) (some ⟨w.heap.size,0,none⟩) 2 2 n:=by
  have ha:=aY.alloc w 93 (dC [n % 4294967296,n/4294967296]);exact ⟨_,rfl,by simp [val];omega,ha.limbs (Small.append (l:= [_]) (m:= [_]) (Small.one ae) (Small.one ae)) aX⟩
 go_enter func191,ntmps191
 go_wp2_with fail
 refine (cM _ _ _ _ _ hr).mono ?_;rintro e w' ⟨rfl,rfl⟩;go_wp2
 go_ret;exact ⟨_,_,rfl,hr.cut,Fr.some cG,ah.alloc _⟩
theorem ep (w:World) (a b:Option Addr) (k k' c c' n m:Nat) (ha:Raw w a k c n) (hb:Raw w b k' c' m):
 Calls prog 105 #[.slice a k c,.slice b k' c'] w λe w'=>e= .returned (.int .i64 (gp n m))/\Quiet w w':=by
 have ha':=ha.cut;have hb':=hb.cut;have la:=ha'.le;have lb:=hb'.le;by_cases hne:len n=len m
 .obtain ⟨l,hl,hv,hA⟩:=ha'
  obtain ⟨l',hl',hv',hB⟩:=hb';have s1:=hA.small;have s2:=hB.small;have Ie:(((len n:Nat):Int) !=((len m:Nat):Int))=false:=by simp [hne]
  rw [<-hne]at hl' lb Ie;have HL:=af hl;have ml:=af hl';have HV:=af hv;have CV:=af hv';have HN:=af hne
  clear hl hl' hv hv' hne;go_enter func105,ntmps105
  go_wp2_with fail
  refine (cM _ _ _ _ _ ha).mono ?_;rintro e w' ⟨rfl,rfl⟩;go_wp2_with fail
  refine (cM _ _ _ _ _ hb).mono ?_;rintro e w' ⟨rfl,rfl⟩;rw [<-HN.o];go_wp2
  go_loopw [5] (λi wr=> ∃j:Nat,j<=len n/\l.drop j=l'.drop j/\i= .int .i64 ((j:Int)-1)/\Quiet w wr) (λi _=>(intOf i+1).toNat)
  case atStart=>exact ⟨len n,cG,by rw [List.drop_of_length_le (by rw [HL.o];exact cG),List.drop_of_length_le (by rw [ml.o];exact cG)],rfl,Quiet.refl _⟩
  case round=>
   obtain ⟨j,hj,hd,rfl,hq⟩:=hrel;have HD:=af hd;clear hd
   by_cases h0:0<j
   .obtain ⟨i,rfl⟩: ∃i,j=i+1:=⟨j-1,ae⟩
    rw [show(((i+1:Nat):Int)-1)=(i:Int)from by omega];obtain ⟨p,o,rfl⟩:=hA.at (by rw [HL.o];omega);obtain ⟨p',o',rfl⟩:=hB.at (by rw [ml.o];omega);have hc:=(hA.ext hq.ext).cellAt i (by rw [HL.o];omega);have hc':=(hB.ext hq.ext).cellAt i (by rw [ml.o];omega);have hx:=bZ s1 i;have hy:=bZ s2 i;have g1:(i:Int)<(len n:Int):=ae;have g2:(0:Int)<=(i:Int):=ae;by_cases c1:limb l i<limb l' i
    .have d1:decide (((limb l i:Nat):Int)<((limb l' i:Nat):Int))=true:=by simp;omega
     go_wp2
     go_quiet (fail)
     go_wp2
     go_ret;refine ⟨cL ?_,hq.drewN _⟩;have:=rT s1 (k:=i) (by rw [HL.o];omega) (by rw [ml.o];omega) (by rw [HD.o]) c1;rw [HV.o,CV.o]at this;unfold gp;rw [if_pos this]
    .by_cases c2:limb l' i<limb l i
     .have d1:decide (((limb l i:Nat):Int)<((limb l' i:Nat):Int))=false:=by simp;omega
      have d2:decide (((limb l' i:Nat):Int)<((limb l i:Nat):Int))=true:=by simp;omega
      go_wp2
      go_quiet (fail)
      go_wp2
      go_quiet (fail)
      go_wp2
      go_ret;refine ⟨cL ?_,(hq.drewN _).drewN _⟩;have:=rT s2 (k:=i) (by rw [ml.o];omega) (by rw [HL.o];omega) (by rw [HD.o]) c2;rw [HV.o,CV.o]at this;unfold gp;rw [if_neg ae,if_neg ae]
     .have d1:decide (((limb l i:Nat):Int)<((limb l' i:Nat):Int))=false:=by simp;omega
      have d2:decide (((limb l' i:Nat):Int)<((limb l i:Nat):Int))=false:=by simp;omega
      go_wp2
      go_quiet (fail)
      go_wp2
      go_quiet (fail)
      go_wp2
      go_roundw
      case rel=>
           refine ⟨i,ae,?_,rfl,hq.drewN _⟩;have e1:limb l i=limb l' i:=ae;have e2:i<l.length:=by rw [HL.o];omega
           have e3:i<l'.length:=by rw [ml.o];omega
           rw [List.drop_eq_getElem_cons e2,List.drop_eq_getElem_cons e3,HD.o];simp only [limb,List.getElem?_eq_getElem e2,List.getElem?_eq_getElem e3,Option.getD_some]at e1;rw [e1]
      case measure=>simp [intOf]
   .obtain rfl:j=0:=ae
    go_wp2
    go_ret;refine ⟨cL ?_,hq⟩;have:n=m:=by rw [<-HV.o,<-CV.o];have:=HD.o;simp at this;rw [this]
    unfold gp;rw [if_neg ae,if_pos this]
 .have Ie:(((len n:Nat):Int) !=((len m:Nat):Int))=true:=by simp;omega
  by_cases hlt:len n<len m
  .go_enter func105,ntmps105
   go_wp2_with fail
   refine (cM _ _ _ _ _ ha).mono ?_;rintro e w' ⟨rfl,rfl⟩;go_wp2_with fail
   refine (cM _ _ _ _ _ hb).mono ?_;rintro e w' ⟨rfl,rfl⟩;go_wp2
   go_ret;refine ⟨cL ?_,Quiet.refl _⟩
   have:n<m:=by
    apply Nat.lt_of_not_le;intro h;have:=dt h;omega
   unfold gp;rw [if_pos this]
  .go_enter func105,ntmps105
   go_wp2_with fail
   refine (cM _ _ _ _ _ ha).mono ?_;rintro e w' ⟨rfl,rfl⟩;go_wp2_with fail
   refine (cM _ _ _ _ _ hb).mono ?_;rintro e w' ⟨rfl,rfl⟩;go_wp2
   go_ret;refine ⟨cL ?_,Quiet.refl _⟩
   have:m<n:=by
    apply Nat.lt_of_not_le;intro h;have:=dt h;omega
   unfold gp;rw [if_neg ae,if_neg ae]
theorem Tryz.info_u32:(Tryz.prog.info? 93).map (λi=>(i.zero,i.size,i.bytes))=some (some (.int .u32 0),1,4):=aw
theorem Tryz.size_u32:(Tryz.prog.info? 93).map (·.size)=some 1:=aw
theorem qL (w:World) (a:Option Addr) (k c n:Nat) (h:Raw w a k c n):
 Calls prog 194 #[.slice a k c] w (jU n w):=by
 have hc:=h.cut;have hl:=hc.le;obtain ⟨l,BS,hl2,hL⟩:=hc;have H1:=af BS;have H2:=af hl2;clear BS hl2
 go_enter func194,ntmps194
 go_wp2_with (first
  |(go_at_call 192;refine (cM _ _ _ _ _ h).mono ?_;rintro e w' ⟨rfl,rfl⟩)
  |(at_make;refine bU _ rfl _ _ 59 rfl 93 (.int .u32 0) 4 underlying59 Tryz.info_u32 rfl _ _ (len n) rfl rfl rfl rfl ae ae ?_;intro w1 kR hx1 hz1)
  |(refine xQ (o:=⟨some 11,_,_,_,_,_⟩) rfl (.tmp 9) (.tmp 10) 59 59 rfl 93 underlying59 Tryz.size_u32 _ _ _ _ _ _ rfl rfl w.heap.size 0 _ 93 kR.o (dC l) ?c1 ?c2 ?c3 (uy l) ?_;rotate_right;intro w2 hw2 hx2 hz2))
 case c1=>rw [jt,H1.o];exact (Nat.min_self _).symm
 case c2=>intro h0;rw [jt]at h0;exact (hL.ext hx1).src h0
 case c3=>rw [jt,H1.o];simp
 go_ret
 have e:splice (List.replicate (len n) (Value.int .u32 0)) 0 (dC l)=dC l:=by
  unfold splice;rw [jt,H1.o];simp
 have hA:aY w2 w.heap.size 93 (dC l):=by have:=hw2.o;rwa [e]at this
 have hR:Raw w2 (some ⟨w.heap.size,0,none⟩) (len n) (len n) n:=by
  have:=hA.limbs hL.small (by rw [H1.o];omega);rw [H1.o]at this;exact ⟨l,H1.o,H2.o,this⟩
 exact ⟨_,_,rfl,hR,Fr.some cG,hx2.o w hx1 cG⟩
theorem qM {L M r:List Nat} {i cy:Nat} (h1:i<L.length) (hr:r.length=i) (hv:val r+4294967296^i*cy=val (L.take i)+val (M.take i)) (hM:i<M.length\/M.length<=i):
 val (r++ [(cy+limb L i+limb M i) % 4294967296])+4294967296^(i+1)*((cy+limb L i+limb M i)/4294967296)=val (L.take (i+1))+val (M.take (i+1)):=by
 rw [cY,fD,hr,cd h1]
 have e:val (M.take (i+1))=val (M.take i)+4294967296^i*limb M i:=by
  rcases hM with h|h
  .exact cd h
  .rw [List.take_of_length_le ae,List.take_of_length_le ae];simp [limb,List.getElem?_eq_none h]
 rw [e,Nat.pow_succ,Nat.mul_assoc];generalize 4294967296^i=p at*
 have e2:p*((cy+limb L i+limb M i) % 4294967296)+p*(4294967296*((cy+limb L i+limb M i)/4294967296))=p*cy+p*limb L i+p*limb M i:=by
  rw [<-Nat.mul_add,Nat.mod_add_div,Nat.mul_add,Nat.mul_add]
 omega
theorem Ig (w:World) (a b:Option Addr) (k k' c c' n m:Nat) (ha:Raw w a k c n) (hb:Raw w b k' c' m) (hle:len m<=len n) (hsz:len n<1000000000):
 Calls prog 198 #[.slice a k c,.slice b k' c'] w (jU (n+m) w):=by
 have ha':=ha.cut;have hb':=hb.cut;have la:=ha'.le;have lb:=hb'.le;obtain ⟨l,hl,hv,hA⟩:=ha';obtain ⟨l',hl',hv',hB⟩:=hb';have s1:=hA.small;have s2:=hB.small;have HL:=af hl;have ml:=af hl';have HV:=af hv;have CV:=af hv'
 clear hl hl' hv hv';have hlt: ¬len n<len m:=ae;go_enter func198,ntmps198
 go_wp2_with fail
 refine (cM _ _ _ _ _ ha).mono ?_;rintro e w' ⟨rfl,rfl⟩;go_wp2_with fail
 refine (cM _ _ _ _ _ hb).mono ?_;rintro e w' ⟨rfl,rfl⟩;go_wp2_with (at_make;refine bU _ rfl _ _ 59 rfl 93 (.int .u32 0) 4 underlying59 Tryz.info_u32 rfl _ _ (len n+1) rfl rfl bq bq ae ae ?_;intro w1 kR hx1 hz1)
 go_loopw [6,26] (λcy i wr=> ∃(j q:Nat) (r:List Nat),j<=len n/\Hid (r.length=j)/\Small r/\q<=1/\Hid (val r+4294967296^j*q=val (l.take j)+val (l'.take j))/\Hid (aY wr w.heap.size 93 (dC (r++List.replicate (len n+1-j) 0)))/\Ext w wr/\cy= .int .u64 q/\i= .int .i64 j) (λ_ i _=>len n-(intOf i).toNat)
 case atStart=>exact ⟨0,0,[],bm,rfl,Small.nil,bm,rfl,by have:=kR.o;rw [dv]at this;exact this,hx1,rfl,rfl⟩
 case round=>
  obtain ⟨j,q,r,hj,hr,hs,hq,hval,dI,dU,rfl,rfl⟩:=hrel;by_cases h0:j<len n
  .obtain ⟨p,o,rfl⟩:=hA.at (by rw [HL.o];omega)
   have hc:=(hA.ext dU).cellAt j (by rw [HL.o];omega);have hx:=bZ s1 j
   have hst:wr.cell? ⟨w.heap.size,j,none⟩=some (.int .u32 0):=by
    rw [dI.o.cell,fu _ _ (by simp [hr.o];omega)];simp [limb,hr.o,show 0<len n+1-j from by omega]
   have qG:=dI.o.frozen j
   have kS: ∀x:Nat,x<4294967296->aY (wr.setCell ⟨w.heap.size,j,none⟩ (.int .u32 (x:Nat))) w.heap.size 93 (dC ((r++ [x])++List.replicate (len n+1-(j+1)) 0)):=by
    intro x _;have:=dI.o.set j (.int .u32 (x:Nat));rw [gz,List.set_append_right _ _ (by rw [hr.o];exact cG),hr.o,Nat.sub_self,show len n+1-j=(len n+1-(j+1))+1 from ae,List.replicate_succ,List.set_cons_zero]at this;rw [List.append_assoc];exact this
   have HN:=af kS;clear kS
   by_cases h1:j<len m
   .obtain ⟨p',o',rfl⟩:=hB.at (by rw [ml.o];omega)
    have hc':=(hB.ext dU).cellAt j (by rw [ml.o];omega);have hy:=bZ s2 j;go_wp2
    go_roundw
    case rel=>
     have ik:=qM (L:=l) (M:=l') (cy:=q) (i:=j) (by rw [HL.o];omega) hr.o hval.o (by rw [ml.o];omega);refine ⟨j+1,(q+limb l j+limb l' j)/4294967296,r++ [(q+limb l j+limb l' j) % 4294967296],ae,(show _=_ by simp [hr.o]),hs.append (Small.one (Nat.mod_lt _ ai)),ae,ik,HN.o _ (Nat.mod_lt _ ai),dU.setCell cG _,?_,?_⟩<;>go_num
    case measure=>simp [intOf];omega
   .have e1:limb l' j=0:=by unfold limb;rw [List.getElem?_eq_none (by rw [ml.o];omega)];rfl
    have E1:=af e1;clear e1
    go_wp2
    go_roundw
    case rel=>
     have ik:=qM (L:=l) (M:=l') (cy:=q) (i:=j) (by rw [HL.o];omega) hr.o hval.o (by rw [ml.o];omega);rw [E1.o,Nat.add_zero]at ik;refine ⟨j+1,(q+limb l j)/4294967296,r++ [(q+limb l j) % 4294967296],ae,(show _=_ by simp [hr.o]),hs.append (Small.one (Nat.mod_lt _ ai)),ae,ik,HN.o _ (Nat.mod_lt _ ai),dU.setCell cG _,?_,?_⟩<;>go_num
    case measure=>simp [intOf];omega
  .obtain rfl:j=len n:=ae
   have hst:wr.cell? ⟨w.heap.size,len n,none⟩=some (.int .u32 0):=by
    rw [dI.o.cell,fu _ _ (by simp [hr.o])];simp [limb,hr.o]
   have qG:=dI.o.frozen (len n)
   have oM:Raw (wr.setCell ⟨w.heap.size,len n,none⟩ (.int .u32 (q:Nat))) (some ⟨w.heap.size,0,none⟩) (len n+1) (len n+1) (n+m):=by
    have:=dI.o.set (len n) (.int .u32 (q:Nat));rw [gz,List.set_append_right _ _ (by rw [hr.o];exact cG),hr.o,Nat.sub_self,show len n+1-len n=1 from by omega]at this;simp only [List.replicate_succ,List.replicate_zero,List.set_cons_zero]at this;have h2:=this.limbs (hs.append (Small.one ae)) (by simp [hr.o];omega);refine ⟨r++ [q],by simp [hr.o],?_,by simpa [hr.o]using h2⟩;rw [cY,fD,hr.o,hval.o,List.take_of_length_le (by rw [HL.o];exact cG),List.take_of_length_le (by rw [ml.o];omega),HV.o,CV.o]
   have HR:=af oM;clear oM
   go_wp2_with (go_at_call 192;refine (cM _ _ _ _ _ HR.o).mono ?_;rintro e w' ⟨rfl,rfl⟩)
   go_ret;exact ⟨_,_,rfl,HR.o.cut,Fr.some cG,dU.setCell cG _⟩
theorem Ih (w:World) (a b:Option Addr) (k k' c c' n m:Nat) (ha:Raw w a k c n) (hb:Raw w b k' c' m) (hle:len m<len n) (hsz:len n<1000000000):
 Calls prog 198 #[.slice b k' c',.slice a k c] w (jU (n+m) w):=by
 have ha':=ha.cut;have hb':=hb.cut;have la:=ha'.le;have lb:=hb'.le;obtain ⟨l,hl,hv,hA⟩:=ha';obtain ⟨l',hl',hv',hB⟩:=hb';have s1:=hA.small;have s2:=hB.small;have HL:=af hl;have ml:=af hl';have HV:=af hv;have CV:=af hv'
 clear hl hl' hv hv';have hlt: ¬len n<len m:=ae;go_enter func198,ntmps198
 go_wp2_with fail
 refine (cM _ _ _ _ _ hb).mono ?_;rintro e w' ⟨rfl,rfl⟩;go_wp2_with fail
 refine (cM _ _ _ _ _ ha).mono ?_;rintro e w' ⟨rfl,rfl⟩;go_wp2_with (at_make;refine bU _ rfl _ _ 59 rfl 93 (.int .u32 0) 4 underlying59 Tryz.info_u32 rfl _ _ (len n+1) rfl rfl bq bq ae ae ?_;intro w1 kR hx1 hz1)
 go_loopw [6,26] (λcy i wr=> ∃(j q:Nat) (r:List Nat),j<=len n/\Hid (r.length=j)/\Small r/\q<=1/\Hid (val r+4294967296^j*q=val (l.take j)+val (l'.take j))/\Hid (aY wr w.heap.size 93 (dC (r++List.replicate (len n+1-j) 0)))/\Ext w wr/\cy= .int .u64 q/\i= .int .i64 j) (λ_ i _=>len n-(intOf i).toNat)
 case atStart=>exact ⟨0,0,[],bm,rfl,Small.nil,bm,rfl,by have:=kR.o;rw [dv]at this;exact this,hx1,rfl,rfl⟩
 case round=>
  obtain ⟨j,q,r,hj,hr,hs,hq,hval,dI,dU,rfl,rfl⟩:=hrel;by_cases h0:j<len n
  .obtain ⟨p,o,rfl⟩:=hA.at (by rw [HL.o];omega)
   have hc:=(hA.ext dU).cellAt j (by rw [HL.o];omega);have hx:=bZ s1 j
   have hst:wr.cell? ⟨w.heap.size,j,none⟩=some (.int .u32 0):=by
    rw [dI.o.cell,fu _ _ (by simp [hr.o];omega)];simp [limb,hr.o,show 0<len n+1-j from by omega]
   have qG:=dI.o.frozen j
   have kS: ∀x:Nat,x<4294967296->aY (wr.setCell ⟨w.heap.size,j,none⟩ (.int .u32 (x:Nat))) w.heap.size 93 (dC ((r++ [x])++List.replicate (len n+1-(j+1)) 0)):=by
    intro x _;have:=dI.o.set j (.int .u32 (x:Nat));rw [gz,List.set_append_right _ _ (by rw [hr.o];exact cG),hr.o,Nat.sub_self,show len n+1-j=(len n+1-(j+1))+1 from ae,List.replicate_succ,List.set_cons_zero]at this;rw [List.append_assoc];exact this
   have HN:=af kS;clear kS
   by_cases h1:j<len m
   .obtain ⟨p',o',rfl⟩:=hB.at (by rw [ml.o];omega)
    have hc':=(hB.ext dU).cellAt j (by rw [ml.o];omega);have hy:=bZ s2 j;go_wp2
    go_roundw
    case rel=>
     have ik:=qM (L:=l) (M:=l') (cy:=q) (i:=j) (by rw [HL.o];omega) hr.o hval.o (by rw [ml.o];omega);refine ⟨j+1,(q+limb l j+limb l' j)/4294967296,r++ [(q+limb l j+limb l' j) % 4294967296],ae,(show _=_ by simp [hr.o]),hs.append (Small.one (Nat.mod_lt _ ai)),ae,ik,HN.o _ (Nat.mod_lt _ ai),dU.setCell cG _,?_,?_⟩<;>go_num
    case measure=>simp [intOf];omega
   .have e1:limb l' j=0:=by unfold limb;rw [List.getElem?_eq_none (by rw [ml.o];omega)];rfl
    have E1:=af e1;clear e1
    go_wp2
    go_roundw
    case rel=>
     have ik:=qM (L:=l) (M:=l') (cy:=q) (i:=j) (by rw [HL.o];omega) hr.o hval.o (by rw [ml.o];omega);rw [E1.o,Nat.add_zero]at ik;refine ⟨j+1,(q+limb l j)/4294967296,r++ [(q+limb l j) % 4294967296],ae,(show _=_ by simp [hr.o]),hs.append (Small.one (Nat.mod_lt _ ai)),ae,ik,HN.o _ (Nat.mod_lt _ ai),dU.setCell cG _,?_,?_⟩<;>go_num
    case measure=>simp [intOf];omega
  .obtain rfl:j=len n:=ae
   have hst:wr.cell? ⟨w.heap.size,len n,none⟩=some (.int .u32 0):=by
    rw [dI.o.cell,fu _ _ (by simp [hr.o])];simp [limb,hr.o]
   have qG:=dI.o.frozen (len n)
   have oM:Raw (wr.setCell ⟨w.heap.size,len n,none⟩ (.int .u32 (q:Nat))) (some ⟨w.heap.size,0,none⟩) (len n+1) (len n+1) (n+m):=by
    have:=dI.o.set (len n) (.int .u32 (q:Nat));rw [gz,List.set_append_right _ _ (by rw [hr.o];exact cG),hr.o,Nat.sub_self,show len n+1-len n=1 from by omega]at this;simp only [List.replicate_succ,List.replicate_zero,List.set_cons_zero]at this;have h2:=this.limbs (hs.append (Small.one ae)) (by simp [hr.o];omega);refine ⟨r++ [q],by simp [hr.o],?_,by simpa [hr.o]using h2⟩;rw [cY,fD,hr.o,hval.o,List.take_of_length_le (by rw [HL.o];exact cG),List.take_of_length_le (by rw [ml.o];omega),HV.o,CV.o]
   have HR:=af oM;clear oM
   go_wp2_with (go_at_call 192;refine (cM _ _ _ _ _ HR.o).mono ?_;rintro e w' ⟨rfl,rfl⟩)
   go_ret;exact ⟨_,_,rfl,HR.o.cut,Fr.some cG,dU.setCell cG _⟩
theorem JX (w:World) (a b:Option Addr) (k k' c c' n m:Nat) (ha:Raw w a k c n) (hb:Raw w b k' c' m) (h1:len n<1000000000) (h2:len m<1000000000):
 Calls prog 198 #[.slice a k c,.slice b k' c'] w (jU (n+m) w):=by
 by_cases h:len m<=len n
 .exact Ig w a b k k' c c' n m ha hb h h1
 .rw [Nat.add_comm];exact Ih w b a k' k c' c m n hb ha ae h2
theorem Ii (w:World) (a b:Option Addr) (k k' c c' n m:Nat) (ha:Raw w a k c n) (hb:Raw w b k' c' m) (hlt:n<m):
 Calls prog 199 #[.slice a k c,.slice b k' c'] w λe w'=>e= .returned (.tuple #[.slice none 0 0,.bool false])/\Quiet w w':=by
 have ha':=ha.cut;have hb':=hb.cut;have xS:gp n m= -1:=by unfold gp;rw [if_pos hlt]
 have HC:=af xS;clear xS
 go_enter func199,ntmps199
 go_wp2_with fail
 refine (cM _ _ _ _ _ ha).mono ?_;rintro e w' ⟨rfl,rfl⟩;go_wp2_with fail
 refine (cM _ _ _ _ _ hb).mono ?_;rintro e w' ⟨rfl,rfl⟩;go_wp2_with fail
 refine (ep _ _ _ _ _ _ _ _ _ ha' hb').mono ?_;rintro e w' ⟨rfl,hq⟩;rw [HC.o];go_wp2
 go_ret2
 exact ⟨rfl,hq⟩
theorem NJ (x y q:Nat) (hx:x<4294967296) (hy:y<4294967296) (hq:q<=1): ∃z q':Nat,z+y+q=x+4294967296*q'/\z<4294967296/\q'<=1/\
 IntKind.u64.wrap (IntKind.u64.wrap ((x:Int)-(q:Int))-(y:Int)) % 4294967296=(z:Int)/\IntKind.u64.wrap (IntKind.u64.wrap ((x:Int)-(q:Int))-(y:Int))/9223372036854775808=(q':Int):=by
 rw [IntKind.wrap_u64,IntKind.wrap_u64];by_cases h:q+y<=x
 .exact ⟨x-y-q,0,ae,ae,ae,ae,ae⟩
 .exact ⟨x+4294967296-y-q,1,ae,ae,ae,ae,ae⟩
theorem Ln (x q:Nat) (hx:x<4294967296) (hq:q<=1): ∃z q':Nat,z+0+q=x+4294967296*q'/\z<4294967296/\q'<=1/\
 IntKind.u64.wrap ((x:Int)-(q:Int)) % 4294967296=(z:Int)/\IntKind.u64.wrap ((x:Int)-(q:Int))/9223372036854775808=(q':Int):=by
 rw [IntKind.wrap_u64];by_cases h:q<=x
 .exact ⟨x-q,0,ae,ae,ae,ae,ae⟩
 .exact ⟨x+4294967296-q,1,ae,ae,ae,ae,ae⟩
def zi (n:Nat) (w:World) (e:Ending) (w':World):Prop:= ∃a c,e= .returned (.tuple #[.slice a (len n) c,.bool true])/\Raw w' a (len n) c n/\Fr w.heap.size a/\Ext w w'
theorem yG (w:World) (a b:Option Addr) (k k' c c' n m:Nat) (ha:Raw w a k c n) (hb:Raw w b k' c' m) (hle:m<=n):
 Calls prog 199 #[.slice a k c,.slice b k' c'] w (zi (n-m) w):=by
 have ha':=ha.cut;have hb':=hb.cut;have la:=ha'.le;have lb:=hb'.le;have Hp:=dt hle;have xS:0<=gp n m:=by unfold gp;rw [if_neg ae];split<;>decide
 go_enter func199,ntmps199
 go_wp2_with fail
 refine (cM _ _ _ _ _ ha).mono ?_;rintro e w' ⟨rfl,rfl⟩;go_wp2_with fail
 refine (cM _ _ _ _ _ hb).mono ?_;rintro e w' ⟨rfl,rfl⟩;go_wp2_with fail
 refine (ep _ _ _ _ _ _ _ _ _ ha' hb').mono ?_;rintro e w0 ⟨rfl,tR⟩;obtain ⟨l,hl,hv,hA⟩:=ha'.ext tR.ext;obtain ⟨l',hl',hv',hB⟩:=hb'.ext tR.ext;have s1:=hA.small;have s2:=hB.small;have HL:=af hl;have ml:=af hl';have HV:=af hv;have CV:=af hv'
 clear hl hl' hv hv';go_wp2_with (at_make;refine bU _ rfl _ _ 59 rfl 93 (.int .u32 0) 4 underlying59 Tryz.info_u32 rfl _ _ (len n) rfl rfl bq bq ae ae ?_;intro w1 kR hx1 hz1)
 go_loopw [7,24] (λcy i wr=> ∃(j q:Nat) (r:List Nat),j<=len n/\Hid (r.length=j)/\Small r/\q<=1/\Hid (val r+val (l'.take j)=val (l.take j)+4294967296^j*q)/\Hid (aY wr w0.heap.size 93 (dC (r++List.replicate (len n-j) 0)))/\Ext w0 wr/\cy= .int .u64 q/\i= .int .i64 j) (λ_ i _=>len n-(intOf i).toNat)
 case atStart=>exact ⟨0,0,[],bm,rfl,Small.nil,bm,rfl,by have:=kR.o;rw [dv]at this;exact this,hx1,rfl,rfl⟩
 case round=>
  obtain ⟨j,q,r,hj,hr,hs,hq,hval,dI,dU,rfl,rfl⟩:=hrel;by_cases h0:j<len n
  .obtain ⟨p,o,rfl⟩:=hA.at (by rw [HL.o];omega)
   have hc:=(hA.ext dU).cellAt j (by rw [HL.o];omega);have hx:=bZ s1 j
   have hst:wr.cell? ⟨w0.heap.size,j,none⟩=some (.int .u32 0):=by
    rw [dI.o.cell,fu _ _ (by simp [hr.o];omega)];simp [limb,hr.o,show 0<len n-j from by omega]
   have qG:=dI.o.frozen j
   have kS: ∀x:Nat,x<4294967296->aY (wr.setCell ⟨w0.heap.size,j,none⟩ (.int .u32 (x:Nat))) w0.heap.size 93 (dC ((r++ [x])++List.replicate (len n-(j+1)) 0)):=by
    intro x _;have:=dI.o.set j (.int .u32 (x:Nat));rw [gz,List.set_append_right _ _ (by rw [hr.o];exact cG),hr.o,Nat.sub_self,show len n-j=(len n-(j+1))+1 from ae,List.replicate_succ,List.set_cons_zero]at this;rw [List.append_assoc];exact this
   have HN:=af kS;clear kS
   by_cases h1:j<len m
   .obtain ⟨p',o',rfl⟩:=hB.at (by rw [ml.o];omega)
    have hc':=(hB.ext dU).cellAt j (by rw [ml.o];omega);have hy:=bZ s2 j;obtain ⟨z,q',e0,hz,hq',e1,e2⟩:=NJ (limb l j) (limb l' j) q hx hy hq;have E0:=af e0;have E1:=af e1;have E2:=af e2;clear e0 e1 e2
    go_wp2
    rw [E1.o,E2.o]
    go_roundw
    case rel=>
     have oN:=oL (L:=l) (M:=l') (q:=q) (i:=j) (by rw [HL.o];omega) hr.o hval.o (by rw [ml.o];omega) rfl rfl E0.o;exact ⟨j+1,q',r++ [z],ae,(show _=_ by simp [hr.o]),hs.append (Small.one hz),hq',oN,HN.o _ hz,dU.setCell cG _,rfl,bq⟩
    case measure=>simp [intOf];omega
   .have e1:limb l' j=0:=gK (by rw [ml.o];omega)
    have EY:=af e1;clear e1
    obtain ⟨z,q',e0,hz,hq',e1,e2⟩:=Ln (limb l j) q hx hq;have E0:=af e0;have E1:=af e1;have E2:=af e2;clear e0 e1 e2
    go_wp2
    rw [E1.o,E2.o]
    go_roundw
    case rel=>
     have oN:=oL (L:=l) (M:=l') (q:=q) (i:=j) (by rw [HL.o];omega) hr.o hval.o (by rw [ml.o];omega) rfl EY.o E0.o;exact ⟨j+1,q',r++ [z],ae,(show _=_ by simp [hr.o]),hs.append (Small.one hz),hq',oN,HN.o _ hz,dU.setCell cG _,rfl,bq⟩
    case measure=>simp [intOf];omega
  .obtain rfl:j=len n:=ae
   have oM:Raw wr (some ⟨w0.heap.size,0,none⟩) (len n) (len n) (n-m):=by
    have WO:=hval.o;have t1:l.take (len n)=l:=List.take_of_length_le (by rw [HL.o];exact cG);have t2:l'.take (len n)=l':=List.take_of_length_le (by rw [ml.o];omega);rw [t1,t2,HV.o,CV.o]at WO;have hv2:=kA hs;rw [hr.o]at hv2
    have tR:q=0:=by
     apply Nat.eq_zero_of_not_pos;intro h
     have:4294967296^len n*1<=4294967296^len n*q:=Nat.mul_le_mul_left _ h;omega
    subst tR;have h2:=dI.o;rw [Nat.sub_self,List.replicate_zero,List.append_nil]at h2;have h3:=h2.limbs hs (by rw [hr.o];omega);rw [hr.o]at h3;exact ⟨r,hr.o,ae,h3⟩
   have HR:=af oM;clear oM
   go_wp2_with (go_at_call 192;refine (cM _ _ _ _ _ HR.o).mono ?_;rintro e w' ⟨rfl,rfl⟩)
   go_ret2
   exact ⟨_,_,rfl,HR.o.cut,Fr.some tR.ext.size,tR.ext.trans dU⟩
theorem EW {P' P L':List Nat} {i j q x:Nat} (hj:j<L'.length) (hi:i+j<P'.length) (hv:val P'+4294967296^(i+j)*q=val P+4294967296^i*(x*val (L'.take j))):
 val (P'.set (i+j) ((q+(x*limb L' j+limb P' (i+j))) % 4294967296))+4294967296^(i+(j+1))*((q+(x*limb L' j+limb P' (i+j)))/4294967296)=val P+4294967296^i*(x*val (L'.take (j+1))):=by
 have h1:=yF hi ((q+(x*limb L' j+limb P' (i+j))) % 4294967296);rw [cd hj,show i+(j+1)=i+j+1 from ae,Nat.pow_succ,Nat.mul_assoc,Nat.mul_add x,Nat.mul_add (4294967296^i)]
 have h2:4294967296^i*(x*(4294967296^j*limb L' j))=4294967296^(i+j)*(x*limb L' j):=by
  rw [Nat.pow_add,Nat.mul_left_comm x,Nat.mul_assoc]
 rw [h2];generalize 4294967296^(i+j)=p at*
 have h3:p*((q+(x*limb L' j+limb P' (i+j))) % 4294967296)+p*(4294967296*((q+(x*limb L' j+limb P' (i+j)))/4294967296))=p*q+(p*(x*limb L' j)+p*limb P' (i+j)):=by
  rw [<-Nat.mul_add,Nat.mod_add_div,Nat.mul_add,Nat.mul_add]
 omega
theorem CW (w:World) (a b:Option Addr) (k k' c c' n m:Nat) (ha:Raw w a k c n) (hb:Raw w b k' c' m) (h0:n=0\/m=0):
 Calls prog 109 #[.slice a k c,.slice b k' c'] w (jU (n*m) w):=by
 by_cases hn:len n=0
 .have yE:(((len n:Nat):Int)==0)=true:=by simp [hn]
  go_enter func109,ntmps109
  go_wp2_with fail
  refine (cM _ _ _ _ _ ha).mono ?_;rintro e w' ⟨rfl,rfl⟩;go_wp2_with fail
  refine (cM _ _ _ _ _ hb).mono ?_;rintro e w' ⟨rfl,rfl⟩;go_wp2
  go_ret;rw [lX.1 hn,Nat.zero_mul];exact ⟨none,0,rfl,Raw.nil _,Fr.none _,ah⟩
 .have hm:len m=0:=by
   rcases h0 with h|h
   .exact absurd (lX.2 h) hn
   .exact lX.2 h
  have yE:(((len n:Nat):Int)==0)=false:=by rw [beq_eq_false_iff_ne];omega
  have NK:(((len m:Nat):Int)==0)=true:=by simp [hm]
  go_enter func109,ntmps109
  go_wp2_with fail
  refine (cM _ _ _ _ _ ha).mono ?_;rintro e w' ⟨rfl,rfl⟩;go_wp2_with fail
  refine (cM _ _ _ _ _ hb).mono ?_;rintro e w' ⟨rfl,rfl⟩;go_wp2
  go_ret;rw [lX.1 hm,Nat.mul_zero];exact ⟨none,0,rfl,Raw.nil _,Fr.none _,ah⟩
theorem EX (w:World) (a b:Option Addr) (k k' c c' n m:Nat) (ha:Raw w a k c n) (hb:Raw w b k' c' m) (hn:0<n) (hm:0<m) (h1:len n<1000000000) (h2:len m<1000000000):
 Calls prog 109 #[.slice a k c,.slice b k' c'] w (jU (n*m) w):=by
 have ha':=ha.cut;have hb':=hb.cut;have la:=ha'.le;have lb:=hb'.le;have pn:=iy.2 hn;have pm:=iy.2 hm;have yE:(((len n:Nat):Int)==0)=false:=by rw [beq_eq_false_iff_ne];omega
 have NK:(((len m:Nat):Int)==0)=false:=by rw [beq_eq_false_iff_ne];omega
 obtain ⟨l,hl,hv,hA⟩:=ha';obtain ⟨l',hl',hv',hB⟩:=hb';obtain ⟨pa,oa,rfl⟩:=hA.at (by rw [hl];omega);obtain ⟨pb,ob,rfl⟩:=hB.at (by rw [hl'];omega);have s1:=hA.small;have s2:=hB.small;have HL:=af hl;have ml:=af hl';have HV:=af hv;have CV:=af hv'
 clear hl hl' hv hv';go_enter func109,ntmps109
 go_wp2_with fail
 refine (cM _ _ _ _ _ ha).mono ?_;rintro e w' ⟨rfl,rfl⟩;go_wp2_with fail
 refine (cM _ _ _ _ _ hb).mono ?_;rintro e w' ⟨rfl,rfl⟩;go_wp2_with (at_make;refine bU _ rfl _ _ 59 rfl 93 (.int .u32 0) 4 underlying59 Tryz.info_u32 rfl _ _ (len n+len m) rfl rfl bq bq ae ae ?_;intro w1 kR hx1 hz1)
 go_loopw [31] (λi wr=> ∃(j:Nat) (P:List Nat),j<=len n/\Hid (P.length=len n+len m)/\Small P/\Hid (val P=val (l.take j)*m)/\Hid (∀t,j+len m<=t->limb P t=0)/\Hid (aY wr w.heap.size 93 (dC P))/\Ext w wr/\i= .int .i64 j) (λi _=>len n-(intOf i).toNat)
 case atStart=>exact ⟨0,List.replicate (len n+len m) 0,bm,(show _=_ by simp),Small.replicate _,(show _=_ by simp [val,lL]),(show∀t,_ from λt _=>nj _ _),by have:=kR.o;rw [dv]at this;exact this,hx1,rfl⟩
 case round=>
  obtain ⟨i,P,hi,hP,hs,hval,hz,dI,dU,rfl⟩:=hrel;by_cases h0:i<len n
  .have hc:=(hA.ext dU).cellAt i (by rw [HL.o];omega)
   have hx:=bZ s1 i;by_cases hx0:limb l i=0
   .have TU:((limb l i:Nat):Int)=0:=ae
    rw [TU]at hc;have HX:=af hx0;clear hx0 TU
    go_wp2
    go_roundw
    case rel=>
     refine ⟨i+1,P,ae,hP,hs,?_,(show∀t,_ from λt ht=>hz.o t ae),dI,dU,bq⟩;show _=_;rw [cd (by rw [HL.o];omega),HX.o,hval.o];simp
    case measure=>simp [intOf];omega
   .have TU:(((limb l i:Nat):Int)==0)=false:=by rw [beq_eq_false_iff_ne];omega
    have HX:=af hx0;clear hx0
    go_wp2
    obtain ⟨wo,rfl⟩: ∃wo:World,wo=wr:=⟨_,rfl⟩;go_loopw [8,40] (λcy jj wr=> ∃(j q:Nat) (P':List Nat),j<=len m/\q<4294967296/\Hid (P'.length=len n+len m)/\Small P'/\Hid (val P'+4294967296^(i+j)*q=val P+4294967296^i*(limb l i*val (l'.take j)))/\Hid (∀t,i+j<=t->limb P' t=limb P t)/\Hid (aY wr w.heap.size 93 (dC P'))/\Ext w wr/\cy= .int .u64 q/\jj= .int .i64 j) (λ_ jj _=>len m-(intOf jj).toNat)
    case atStart=>exact ⟨0,0,P,bm,ae,hP,hs,(show _=_ by simp [val]),(show∀t,_ from λt _=>rfl),dI,dU,rfl,rfl⟩
    case round=>
     obtain ⟨j,q,P',hj,hq,Lp,hs',hval',hz',oO,uC,rfl,rfl⟩:=hrel;by_cases h3:j<len m
     .have hc':=(hB.ext uC).cellAt j (by rw [ml.o];omega)
      have TV:=(hA.ext uC).cellAt i (by rw [HL.o];omega);have hy:=bZ s2 j;have hp:=bZ hs' (i+j)
      have hst:wr.cell? ⟨w.heap.size,i+j,none⟩=some (.int .u32 (limb P' (i+j):Nat)):=by
       rw [oO.o.cell,fu _ _ (by rw [Lp.o];omega)]
      have qG:=oO.o.frozen (i+j);have qH:limb l i*limb l' j<=4294967295*4294967295:=Nat.mul_le_mul ae ae;have Bc:((limb l i:Nat):Int)*((limb l' j:Nat):Int)<=18446744065119617025:=by rw [<-Int.natCast_mul];omega
      have aaV:0<=((limb l i:Nat):Int)*((limb l' j:Nat):Int):=by rw [<-Int.natCast_mul];omega
      have kS: ∀(x:Nat) (v:Int),v=(x:Int)->aY (wr.setCell ⟨w.heap.size,i+j,none⟩ (.int .u32 v)) w.heap.size 93 (dC (P'.set (i+j) x)):=by
       intro x v hv;subst hv;have:=oO.o.set (i+j) (.int .u32 (x:Nat));rwa [gz]at this
      have HN:=af kS;clear kS
      go_wp2
      go_roundw
      case rel=>
       have hm:=EW (x:=limb l i) (q:=q) (P:=P) (by rw [ml.o];omega) (by rw [Lp.o];omega) hval'.o;refine ⟨j+1,(q+(limb l i*limb l' j+limb P' (i+j)))/4294967296,P'.set (i+j) ((q+(limb l i*limb l' j+limb P' (i+j))) % 4294967296),ae,?_,(show _=_ by simp [Lp.o]),hs'.set _ _ (Nat.mod_lt _ ai),hm,(show∀t,_ from λt ht=>by rw [n9 ae,hz'.o t ae]),?_,uC.setCell cG _,?_,bq⟩
       .clear hm;rw [Nat.div_lt_iff_lt_mul ai];omega
       .exact HN.o _ _ aX
       .go_num
      case measure=>simp [intOf];omega
     .obtain rfl:j=len m:=ae
      have hst:wr.cell? ⟨w.heap.size,i+len m,none⟩=some (.int .u32 (limb P' (i+len m):Nat)):=by
       rw [oO.o.cell,fu _ _ (by rw [Lp.o];omega)]
      have qG:=oO.o.frozen (i+len m)
      have kS:aY (wr.setCell ⟨w.heap.size,i+len m,none⟩ (.int .u32 (q:Nat))) w.heap.size 93 (dC (P'.set (i+len m) q)):=by
       have:=oO.o.set (i+len m) (.int .u32 (q:Nat));rwa [gz]at this
      have HN:=af kS;clear kS
      go_wp2
      go_roundw
      case rel=>
       refine ⟨i+1,P'.set (i+len m) q,ae,(show _=_ by simp [Lp.o]),hs'.set _ _ hq,?_,?_,HN.o,uC.setCell cG _,bq⟩
       .show _=_
        have e1:=yF (l:=P') (k:=i+len m) (by rw [Lp.o];omega) q;rw [hz'.o _ cG,hz.o _ cG]at e1;have e2:=hval'.o;rw [List.take_of_length_le (by rw [ml.o];exact cG),CV.o]at e2;rw [cd (by rw [HL.o];omega),Nat.add_mul,<-hval.o,Nat.mul_assoc];omega
       .show∀t,_
        intro t ht;rw [n9 ae,hz'.o t ae,hz.o t ae]
      case measure=>simp [intOf];omega
  .obtain rfl:i=len n:=ae
   have oM:Raw wr (some ⟨w.heap.size,0,none⟩) (len n+len m) (len n+len m) (n*m):=by
    have h3:=dI.o.limbs hs (by rw [hP.o];omega);rw [hP.o]at h3;refine ⟨P,hP.o,?_,h3⟩;rw [hval.o,List.take_of_length_le (by rw [HL.o];exact cG),HV.o]
   have HR:=af oM;clear oM
   go_wp2_with (go_at_call 192;refine (cM _ _ _ _ _ HR.o).mono ?_;rintro e w' ⟨rfl,rfl⟩)
   go_ret;exact ⟨_,_,rfl,HR.o.cut,Fr.some cG,dU⟩
theorem pD (w:World) (a b:Option Addr) (k k' c c' n m:Nat) (ha:Raw w a k c n) (hb:Raw w b k' c' m) (h1:len n<1000000000) (h2:len m<1000000000):
 Calls prog 109 #[.slice a k c,.slice b k' c'] w (jU (n*m) w):=by
 by_cases h:n=0\/m=0
 .exact CW w a b k k' c c' n m ha hb h
 .exact EX w a b k k' c c' n m ha hb ae ae h1 h2
def JY (q r:Nat) (w:World) (e:Ending) (w':World):Prop:= ∃a c a' c',e= .returned (.tuple #[.slice a (len q) c,.slice a' (len r) c'])/\Raw w' a (len q) c q/\Fr w.heap.size a/\Raw w' a' (len r) c' r/\Fr w.heap.size a'/\Ext w w'
def rU (q r:Nat) (w:World) (e:Ending) (w':World):Prop:= ∃a c a' c',e= .returned (.tuple #[.slice a (len q) c,.slice a' (len r) c',.bool true])/\Raw w' a (len q) c q/\Fr w.heap.size a/\Raw w' a' (len r) c' r/\Fr w.heap.size a'/\Ext w w'
theorem vI (w:World) (a:Option Addr) (c n d:Nat) (ha:Raw w a (len n) c n) (h0:0<d) (hd:d<4294967296):
 Calls prog 262 #[.slice a (len n) c,.int .u32 (d:Nat)] w (JY (n/d) (n % d) w):=by
 have la:=ha.le;obtain ⟨l,hl,hv,hA⟩:=ha;have s1:=hA.small;have HL:=af hl;have HV:=af hv
 clear hl hv;have d1:(1:Int)<=(d:Int):=ae;have d0:((d:Int)==0)=false:=by rw [beq_eq_false_iff_ne];omega
 go_enter func262,ntmps262
 go_wp2_with (at_make;refine bU _ rfl _ _ 59 rfl 93 (.int .u32 0) 4 underlying59 Tryz.info_u32 rfl _ _ (len n) rfl rfl bq bq ae ae ?_;intro w1 kR hx1 hz1)
 go_loopw [6,7] (λrr i wr=> ∃(j r:Nat) (Q:List Nat),j<=len n/\r<d/\Hid (Q.length=len n)/\Small Q/\Hid (val (Q.drop j)*d+r=val (l.drop j))/\Hid (aY wr w.heap.size 93 (dC Q))/\Ext w wr/\rr= .int .u64 r/\i= .int .i64 ((j:Int)-1)) (λ_ i _=>(intOf i+1).toNat)
 case atStart=>
  refine ⟨len n,0,List.replicate (len n) 0,cG,h0,(show _=_ by simp),Small.replicate _,(show _=_ by rw [List.drop_of_length_le aX,List.drop_of_length_le (by rw [HL.o];exact cG)];simp [val]),by have:=kR.o;rw [dv]at this;exact this,hx1,rfl,rfl⟩
 case round=>
  obtain ⟨j,r,Q,hj,hr,hQ,hs,hval,dI,dU,rfl,rfl⟩:=hrel;by_cases hj0:0<j
  .obtain ⟨i,rfl⟩: ∃i,j=i+1:=⟨j-1,ae⟩
   rw [show(((i+1:Nat):Int)-1)=(i:Int)from by omega];obtain ⟨p,o,rfl⟩:=hA.at (by rw [HL.o];omega);have hc:=(hA.ext dU).cellAt i (by rw [HL.o];omega);have hx:=bZ s1 i
   have hst:wr.cell? ⟨w.heap.size,i,none⟩=some (.int .u32 (limb Q i:Nat)):=by
    rw [dI.o.cell,fu _ _ (by rw [hQ.o];omega)]
   have qG:=dI.o.frozen i;have Sz:=EP r (limb l i) ae hx;obtain ⟨hstep,hlt⟩:=NI h0 hr hx hval.o;have HS:=af hstep;clear hstep
   have aaW:=Nat.mod_lt (limb l i+4294967296*r) h0
   have e1:(((limb l i+4294967296*r:Nat):Int)/(d:Int)) % 4294967296=(((limb l i+4294967296*r)/d:Nat):Int):=by
    rw [<-Int.natCast_ediv];generalize (limb l i+4294967296*r)/d=z at*;omega
   have e2:((limb l i+4294967296*r:Nat):Int) % (d:Int)=(((limb l i+4294967296*r) % d:Nat):Int):=by
    rw [Int.natCast_emod]
   have kS: ∀(x:Nat) (v:Int),v=(x:Int)->aY (wr.setCell ⟨w.heap.size,i,none⟩ (.int .u32 v)) w.heap.size 93 (dC (Q.set i x)):=by
    intro x v hv;subst hv;have:=dI.o.set i (.int .u32 (x:Nat));rwa [gz]at this
   have HN:=af kS;clear kS
   have E1:=af e1;have E2:=af e2;clear e1 e2
   go_wp2
   go_roundw
   case rel=>
    refine ⟨i,(limb l i+4294967296*r) % d,Q.set i ((limb l i+4294967296*r)/d),ae,aaW,(show _=_ by simp [hQ.o]),hs.set _ _ hlt,?_,HN.o _ _ ?_,dU.setCell cG _,?_,rfl⟩
    .show _=_
     rw [uB (by rw [hQ.o];omega),fK (l:=l) (by rw [HL.o];omega)];exact HS.o
    .rw [<-E1.o];simp
    .rw [<-E2.o];simp
   case measure=>simp [intOf]
  .obtain rfl:j=0:=ae
   have TW:val Q*d+r=n:=by have:=hval.o;simpa [HV.o]using this
   have e1:val Q=n/d:=by
    rw [<-TW,Nat.mul_comm,Nat.mul_add_div h0,Nat.div_eq_of_lt hr,Nat.add_zero]
   have e2:r=n % d:=by
    rw [<-TW,Nat.mul_comm,Nat.mul_add_mod,Nat.mod_eq_of_lt hr]
   have oM:Raw wr (some ⟨w.heap.size,0,none⟩) (len n) (len n) (n/d):=by
    have h3:=dI.o.limbs hs (by rw [hQ.o];omega);rw [hQ.o]at h3;exact ⟨Q,hQ.o,e1,h3⟩
   have HR:=af oM;have E2:=af e2;clear oM TW e1 e2
   go_wp2_with fail
   refine (cM _ _ _ _ _ HR.o).mono ?_;rintro e w' ⟨rfl,rfl⟩;go_wp2_with fail
   refine (dD _ _ ae).mono ?_;rintro e w2 ⟨a2,c2,rfl,hr2,hf2,hx2⟩;go_wp2
   go_ret2
   rw [<-E2.o];exact ⟨_,_,a2,c2,rfl,HR.o.cut.ext hx2,Fr.some cG,hr2,hf2.mono dU.size,dU.trans hx2⟩
