/- Texts of the proof. -/
import Derived.Test.YtbnamicbjaaelaaGreatCg9
set_option linter.all false
set_option maxHeartbeats 1000000
set_option maxRecDepth 100000
namespace Go.Proofs.YtbnamicbjaaelaaGreat
open Go.Proofs.Tryz
open Go.RowKit
theorem IZ {x:Nat} (h:97<=x/\x<=122):jw x=true:=by unfold jw;simp [h.1,h.2]
theorem Fz {x:Nat} (h: ¬(97<=x/\x<=122)):jw x=false:=by
 unfold jw;simp only [Bool.and_eq_false_iff,decide_eq_false_iff_not];omega
theorem I0 {s:ByteArray} (h:jw (d_ s 0)=false):dU s=false:=by unfold dU;simp [h]
theorem Lp (w:World) (s:ByteArray) (hs:s.size<=maxLen):
 Calls prog 102 #[.string s] w λe w'=>e= .returned (.bool (dU s))/\w'=w:=by
 unfold maxLen at hs;by_cases h1:1<=s.size
 rotate_left
 .have d1:decide ((s.size:Int)<1)=true:=by simp;omega
  have hn:dU s=false:=by unfold dU;simp [h1]
  rw [hn];clear hn;go_enter func102,ntmps102
  go_wp2
  go_ret;exact ⟨rfl,rfl⟩
 have d1:decide ((s.size:Int)<1)=false:=by simp;omega
 by_cases h2:s.size<=16
 rotate_left
 .have d2:decide ((16:Int)<(s.size:Int))=true:=by simp;omega
  have hn:dU s=false:=by unfold dU;simp [h2]
  rw [hn];clear hn;go_enter func102,ntmps102
  go_wp2
  go_ret;exact ⟨rfl,rfl⟩
 have d2:decide ((16:Int)<(s.size:Int))=false:=by simp;omega
 cases d3:(s.toList== [99,111,114,114,101,99,116,105,118,101])with
 |true=>
  have hn:dU s=false:=by unfold dU;rw [d3];simp
  rw [hn];clear hn;go_enter func102,ntmps102
  go_wp2
  go_ret;exact ⟨rfl,rfl⟩
 |false=>
  have Tp:=ah d3;go_enter func102,ntmps102
  go_wp2
  go_loopw [3] (λii wr=> ∃i:Nat,i<=s.size/\wr=w/\(∀j,j<i->okB (d_ s j)=true)/\(0<i->jw (d_ s 0)=true)/\ii= .int .i64 i) (λii _=>s.size-(intOf ii).toNat)
  case atStart=>exact ⟨0,aZ,rfl,λj hj=>absurd hj (Nat.not_lt_zero _),λh=>absurd h (Nat.lt_irrefl _),rfl⟩
  case round=>
   obtain ⟨i,hi,rfl,hA,hL,rfl⟩:=hrel;by_cases hlt:i<s.size
   .have ei:=tW s i hlt
    have HA:=ah hA;have HL:=ah hL
    have iM:(0:Int)<=(i:Int):=ae;have iK:(i:Int)<(s.size:Int):=ae;obtain ⟨x,hx⟩: ∃x:Nat,s[i].toNat=x:=⟨_,rfl⟩;rw [hx]at ei;have PM:=ah ei;clear hA hL ei d1 d2 d3
    have rj:okB x=true->(i=0->jw x=true)->(∀j,j<i+1->okB (d_ s j)=true)/\(0<i+1->jw (d_ s 0)=true):=λht hl=>⟨λj hj=>by
     by_cases vh:j=i
     .subst vh;rw [PM.o];exact ht
     .exact HA.o j ae,λ_=>by
     by_cases h0:i=0
     .have:=hl h0;subst h0;rw [PM.o];exact this
     .exact HL.o ae⟩
    have jf:okB x=false->dU s=false:=λhf=>zK hlt (by rw [PM.o];exact hf);have mJ:i=0->jw x=false->dU s=false:=λh0 hf=>I0 (by subst h0;rw [PM.o];exact hf);have gf:= @zJ x;have gt:= @Dl x;have lf:= @Fz x;have lt:= @IZ x;cases q1:decide ((97:Int)<=(x:Int))with
    |false=>
     cases q3:((i:Int)==0)with
     |false=>
      cases q4:((x:Int) !=95)with
      |false=>
       have HN:Hid ((∀j,j<i+1->okB (d_ s j)=true)/\(0<i+1->jw (d_ s 0)=true)):=rj (gt (by have p1:=q1;have p3:=q3;have p4:=q4;simp only [decide_eq_true_eq,decide_eq_false_iff_not,bne_iff_ne,ne_eq,bne_eq_false_iff_eq,beq_iff_eq,beq_eq_false_iff_ne]at p1 p3 p4;omega)) (λh0=>by first|(exact lt (by have p1:=q1;have p3:=q3;have p4:=q4;simp only [decide_eq_true_eq,decide_eq_false_iff_not,bne_iff_ne,ne_eq,bne_eq_false_iff_eq,beq_iff_eq,beq_eq_false_iff_ne]at p1 p3 p4;omega))|(exfalso;have p1:=q1;have p3:=q3;have p4:=q4;simp only [decide_eq_true_eq,decide_eq_false_iff_not,bne_iff_ne,ne_eq,bne_eq_false_iff_eq,beq_iff_eq,beq_eq_false_iff_ne]at p1 p3 p4;omega));clear rj jf mJ gf gt lf lt;go_wp2
       exact ⟨⟨i+1,ae,by first|trivial|rfl,HN.o.1,HN.o.2,bf⟩,a_⟩
      |true=>
       cases q5:decide ((x:Int)<48)with
       |false=>
        cases q6:decide ((57:Int)<(x:Int))with
        |false=>
         have HN:Hid ((∀j,j<i+1->okB (d_ s j)=true)/\(0<i+1->jw (d_ s 0)=true)):=rj (gt (by have p1:=q1;have p3:=q3;have p4:=q4;have p5:=q5;have p6:=q6;simp only [decide_eq_true_eq,decide_eq_false_iff_not,bne_iff_ne,ne_eq,bne_eq_false_iff_eq,beq_iff_eq,beq_eq_false_iff_ne]at p1 p3 p4 p5 p6;omega)) (λh0=>by first|(exact lt (by have p1:=q1;have p3:=q3;have p4:=q4;have p5:=q5;have p6:=q6;simp only [decide_eq_true_eq,decide_eq_false_iff_not,bne_iff_ne,ne_eq,bne_eq_false_iff_eq,beq_iff_eq,beq_eq_false_iff_ne]at p1 p3 p4 p5 p6;omega))|(exfalso;have p1:=q1;have p3:=q3;have p4:=q4;have p5:=q5;have p6:=q6;simp only [decide_eq_true_eq,decide_eq_false_iff_not,bne_iff_ne,ne_eq,bne_eq_false_iff_eq,beq_iff_eq,beq_eq_false_iff_ne]at p1 p3 p4 p5 p6;omega));clear rj jf mJ gf gt lf lt;go_wp2
         exact ⟨⟨i+1,ae,by first|trivial|rfl,HN.o.1,HN.o.2,bf⟩,a_⟩
        |true=>
         have HN:Hid (dU s=false):=jf (gf (by have p1:=q1;have p3:=q3;have p4:=q4;have p5:=q5;have p6:=q6;simp only [decide_eq_true_eq,decide_eq_false_iff_not,bne_iff_ne,ne_eq,bne_eq_false_iff_eq,beq_iff_eq,beq_eq_false_iff_ne]at p1 p3 p4 p5 p6;omega));clear rj jf mJ gf gt lf lt;go_wp2
         go_ret;exact ⟨by rw [HN.o];rfl,rfl⟩
       |true=>
        have HN:Hid (dU s=false):=jf (gf (by have p1:=q1;have p3:=q3;have p4:=q4;have p5:=q5;simp only [decide_eq_true_eq,decide_eq_false_iff_not,bne_iff_ne,ne_eq,bne_eq_false_iff_eq,beq_iff_eq,beq_eq_false_iff_ne]at p1 p3 p4 p5;omega));clear rj jf mJ gf gt lf lt;go_wp2
        go_ret;exact ⟨by rw [HN.o];rfl,rfl⟩
     |true=>
      have HN:Hid (dU s=false):=mJ (by have p1:=q1;have p3:=q3;simp only [decide_eq_true_eq,decide_eq_false_iff_not,bne_iff_ne,ne_eq,bne_eq_false_iff_eq,beq_iff_eq,beq_eq_false_iff_ne]at p1 p3;omega) (lf (by have p1:=q1;have p3:=q3;simp only [decide_eq_true_eq,decide_eq_false_iff_not,bne_iff_ne,ne_eq,bne_eq_false_iff_eq,beq_iff_eq,beq_eq_false_iff_ne]at p1 p3;omega));clear rj jf mJ gf gt lf lt;go_wp2
      go_ret;exact ⟨by rw [HN.o];rfl,rfl⟩
    |true=>
     cases q2:decide ((x:Int)<=122)with
     |false=>
      cases q3:((i:Int)==0)with
      |false=>
       cases q4:((x:Int) !=95)with
       |false=>
        have HN:Hid ((∀j,j<i+1->okB (d_ s j)=true)/\(0<i+1->jw (d_ s 0)=true)):=rj (gt (by have p1:=q1;have p2:=q2;have p3:=q3;have p4:=q4;simp only [decide_eq_true_eq,decide_eq_false_iff_not,bne_iff_ne,ne_eq,bne_eq_false_iff_eq,beq_iff_eq,beq_eq_false_iff_ne]at p1 p2 p3 p4;omega)) (λh0=>by first|(exact lt (by have p1:=q1;have p2:=q2;have p3:=q3;have p4:=q4;simp only [decide_eq_true_eq,decide_eq_false_iff_not,bne_iff_ne,ne_eq,bne_eq_false_iff_eq,beq_iff_eq,beq_eq_false_iff_ne]at p1 p2 p3 p4;omega))|(exfalso;have p1:=q1;have p2:=q2;have p3:=q3;have p4:=q4;simp only [decide_eq_true_eq,decide_eq_false_iff_not,bne_iff_ne,ne_eq,bne_eq_false_iff_eq,beq_iff_eq,beq_eq_false_iff_ne]at p1 p2 p3 p4;omega));clear rj jf mJ gf gt lf lt;go_wp2
        exact ⟨⟨i+1,ae,by first|trivial|rfl,HN.o.1,HN.o.2,bf⟩,a_⟩
       |true=>
        cases q5:decide ((x:Int)<48)with
        |false=>
         cases q6:decide ((57:Int)<(x:Int))with
         |false=>
          have HN:Hid ((∀j,j<i+1->okB (d_ s j)=true)/\(0<i+1->jw (d_ s 0)=true)):=rj (gt (by have p1:=q1;have p2:=q2;have p3:=q3;have p4:=q4;have p5:=q5;have p6:=q6;simp only [decide_eq_true_eq,decide_eq_false_iff_not,bne_iff_ne,ne_eq,bne_eq_false_iff_eq,beq_iff_eq,beq_eq_false_iff_ne]at p1 p2 p3 p4 p5 p6;omega)) (λh0=>by first|(exact lt (by have p1:=q1;have p2:=q2;have p3:=q3;have p4:=q4;have p5:=q5;have p6:=q6;simp only [decide_eq_true_eq,decide_eq_false_iff_not,bne_iff_ne,ne_eq,bne_eq_false_iff_eq,beq_iff_eq,beq_eq_false_iff_ne]at p1 p2 p3 p4 p5 p6;omega))|(exfalso;have p1:=q1;have p2:=q2;have p3:=q3;have p4:=q4;have p5:=q5;have p6:=q6;simp only [decide_eq_true_eq,decide_eq_false_iff_not,bne_iff_ne,ne_eq,bne_eq_false_iff_eq,beq_iff_eq,beq_eq_false_iff_ne]at p1 p2 p3 p4 p5 p6;omega));clear rj jf mJ gf gt lf lt;go_wp2
          exact ⟨⟨i+1,ae,by first|trivial|rfl,HN.o.1,HN.o.2,bf⟩,a_⟩
         |true=>
          have HN:Hid (dU s=false):=jf (gf (by have p1:=q1;have p2:=q2;have p3:=q3;have p4:=q4;have p5:=q5;have p6:=q6;simp only [decide_eq_true_eq,decide_eq_false_iff_not,bne_iff_ne,ne_eq,bne_eq_false_iff_eq,beq_iff_eq,beq_eq_false_iff_ne]at p1 p2 p3 p4 p5 p6;omega));clear rj jf mJ gf gt lf lt;go_wp2
          go_ret;exact ⟨by rw [HN.o];rfl,rfl⟩
        |true=>
         have HN:Hid (dU s=false):=jf (gf (by have p1:=q1;have p2:=q2;have p3:=q3;have p4:=q4;have p5:=q5;simp only [decide_eq_true_eq,decide_eq_false_iff_not,bne_iff_ne,ne_eq,bne_eq_false_iff_eq,beq_iff_eq,beq_eq_false_iff_ne]at p1 p2 p3 p4 p5;omega));clear rj jf mJ gf gt lf lt;go_wp2
         go_ret;exact ⟨by rw [HN.o];rfl,rfl⟩
      |true=>
       have HN:Hid (dU s=false):=mJ (by have p1:=q1;have p2:=q2;have p3:=q3;simp only [decide_eq_true_eq,decide_eq_false_iff_not,bne_iff_ne,ne_eq,bne_eq_false_iff_eq,beq_iff_eq,beq_eq_false_iff_ne]at p1 p2 p3;omega) (lf (by have p1:=q1;have p2:=q2;have p3:=q3;simp only [decide_eq_true_eq,decide_eq_false_iff_not,bne_iff_ne,ne_eq,bne_eq_false_iff_eq,beq_iff_eq,beq_eq_false_iff_ne]at p1 p2 p3;omega));clear rj jf mJ gf gt lf lt;go_wp2
       go_ret;exact ⟨by rw [HN.o];rfl,rfl⟩
     |true=>
      have HN:Hid ((∀j,j<i+1->okB (d_ s j)=true)/\(0<i+1->jw (d_ s 0)=true)):=rj (gt (by have p1:=q1;have p2:=q2;simp only [decide_eq_true_eq,decide_eq_false_iff_not,bne_iff_ne,ne_eq,bne_eq_false_iff_eq,beq_iff_eq,beq_eq_false_iff_ne]at p1 p2;omega)) (λh0=>by first|(exact lt (by have p1:=q1;have p2:=q2;simp only [decide_eq_true_eq,decide_eq_false_iff_not,bne_iff_ne,ne_eq,bne_eq_false_iff_eq,beq_iff_eq,beq_eq_false_iff_ne]at p1 p2;omega))|(exfalso;have p1:=q1;have p2:=q2;simp only [decide_eq_true_eq,decide_eq_false_iff_not,bne_iff_ne,ne_eq,bne_eq_false_iff_eq,beq_iff_eq,beq_eq_false_iff_ne]at p1 p2;omega));clear rj jf mJ gf gt lf lt;go_wp2
      exact ⟨⟨i+1,ae,by first|trivial|rfl,HN.o.1,HN.o.2,bf⟩,a_⟩
   .have hn:=nA h1 h2 Tp.o (hL ae) (λj hj=>hA j ae)
    clear hA hL;go_wp2
    go_ret;exact ⟨by rw [hn];rfl,rfl⟩
def Ck (p q:ByteArray):Bool:= !(p.toList==q.toList)
def St.mK (s:St) (nm:ByteArray) (prev:List ByteArray):St:=prev.foldl (λs p=>s.need (Ck p nm) 0 10) s
def St.name (s:St) (nm:ByteArray) (prev:List ByteArray):St:=(s.need (dU nm) 0 9).mK nm prev
theorem St.Lq (s:St) (ok:Bool) (f e:Int):(s.need ok f e).idx=s.idx:=by unfold St.need;split<;>rfl
theorem St.oO (s:St) (nm:ByteArray) (prev:List ByteArray) (h:s.err≠0):s.mK nm prev=s:=by
 unfold St.mK;induction prev with
 |nil=>rfl
 |cons x l ih=>rw [List.foldl_cons,St.iy s _ _ _ h,ih]
theorem St.I1 (s:St) (nm:ByteArray) (prev:List ByteArray) (i:Nat) (h:i<prev.length):s.mK nm (prev.take (i+1))=(s.mK nm (prev.take i)).need (Ck prev[i] nm) 0 10:=by
 unfold St.mK;rw [List.take_succ_eq_append_getElem h,List.foldl_append];rfl
theorem St.I2 (s:St) (nm:ByteArray) (prev:List ByteArray) (i:Nat) (h:(s.mK nm (prev.take i)).err≠0):s.mK nm (prev.take i)=s.mK nm prev:=by
 have h1:s.mK nm prev=(s.mK nm (prev.take i)).mK nm (prev.drop i):=by
  unfold St.mK;rw [<-List.foldl_append,List.take_append_drop]
 rw [h1,St.oO _ _ _ h]
theorem St.zM {s:St} {ok:Bool} {f e:Int} (h:(s.need ok f e).err=0):s.err=0:=by
 by_cases h0:s.err=0
 .exact h0
 .rw [St.iy s ok f e h0]at h;exact h
theorem St.I3 {s:St} {nm:ByteArray} {prev:List ByteArray} (h:(s.mK nm prev).err=0):s.err=0:=by
 by_cases h0:s.err=0
 .exact h0
 .rw [St.oO s nm prev h0]at h;exact h
theorem tX (V:World) (K:Nat) (c:ay) (s:St) (nm:ByteArray) (zA:nm.size<=maxLen) (prev:List ByteArray) (F:Nat) (B:Nat) (FA:s.err=0->s.idx=(prev.length:Int)) (hpl:prev.length<=1000000)
 (hen: ∀args w,(callFunc F args).run prog w= .ok (.enter F args) w)
 (hF: ∀V' s' (i:Nat) (hi:i<prev.length),aB K V V'->iW V' K c s'->Calls prog F #[i64 i,.pointer (some ⟨B,0,none⟩)] V' λe w'=>e= .returned (.string prev[i])/\w'=V') (h:iW V K c s):
 Calls prog 115 #[.pointer (some ⟨K,0,none⟩),.string nm,.func (.func F) #[] #[.pointer (some ⟨B,0,none⟩)]] V λe' w'=>mI V K c (s.name nm prev) e' w':=by
 have hC:=fH V K c s (dU nm) 0 9 h;unfold St.name;have Rx:=St.Lq s (dU nm) 0 9;have hz:= @St.zM s (dU nm) 0 9;have hne:=St.iy s (dU nm) 0 9;obtain ⟨s1,hs1⟩: ∃s1,s.need (dU nm) 0 9=s1:=⟨_,rfl⟩;rw [hs1]at hC Rx hz hne⊢;have PN:s1.err=0->s1.idx=(prev.length:Int):=λh0=>by rw [Rx];exact FA (hz h0)
 have HC:=ah hC;have HF:=ah hF;have HI:=ah PN;have HN:=ah (Oc V nm zA)
 clear hs1 hC hF PN FA Rx hz hne h;go_enter func115,ntmps115
 go_wp2_with fail
 refine HN.o.mono ?_;rintro e w1 ⟨rfl,eL⟩;subst eL;go_wp2_with fail
 refine HC.o.mono ?_;rintro e w1 ⟨rfl,zI,hx1⟩;obtain ⟨-,c9,-⟩:=oN zI;have H1:=ah zI;have X1:=ah hx1
 clear zI hx1 HC HN;go_wp2_with fail
 clear c9;go_loopw [16] (λii wr=> ∃i:Nat,iW wr K c (s1.mK nm (prev.take i))/\aB K w1 wr/\(s1.err=0->i<=prev.length)/\(s1.err≠0->i=0)/\ii= .int .i64 i) (λii _=>(s1.idx-intOf ii).toNat)
 case atStart=>exact ⟨0,H1.o,aB.refl _ _,λ_=>aZ,λ_=>rfl,rfl⟩
 case round=>
  obtain ⟨i,hk,hx,hle,hz,rfl⟩:=hrel;clear H1;by_cases hlt:(i:Int)<s1.idx
  .have t0:decide ((i:Int)<s1.idx)=true:=by simpa using hlt
   obtain ⟨-,-,-,c11,-⟩:=oN hk;have hdz:= @St.I3 s1 nm (prev.take i);have hst:=St.I2 s1 nm prev i;have htk:=St.I1 s1 nm prev i;generalize s1.mK nm (prev.take i)=s2 at*;by_cases h0:s2.err=0
   .have t1:(s2.err !=0)=false:=by simpa using h0
    have EF:=hdz h0;have FA:=HI.o EF;have rP:i<prev.length:=ae;have U2:=ah (HF.o wr s2 i rP (X1.o.trans hx) hk);have HNd:=ah (fH wr K c s2 (Ck prev[i] nm) 0 10 hk);have HT:=ah (htk rP);have HX:=ah hx
    unfold Ck at HNd;clear hdz hst htk hk hx h0 FA hle hz;go_wp2_with fail
    refine U2.o.mono ?_;rintro e w2 ⟨rfl,hw2⟩;subst hw2;go_wp2_with fail
    refine HNd.o.mono ?_;rintro e w3 ⟨rfl,hk3,hx3⟩;go_wp2
    exact ⟨⟨i+1,by rw [HT.o];exact hk3,HX.o.trans hx3,λ_=>ae,λhc=>absurd EF hc,bf⟩,a_⟩
   .have t1:(s2.err !=0)=true:=by simpa using h0
    have HS:=ah (hst h0);have xn:=ah hk;have HX:=ah hx
    clear hdz hst htk h0 hk hx;go_wp2
    exact bodyPost_ret (v:= .tuple #[]) ax rfl ⟨rfl,by rw [<-HS.o];exact xn.o,X1.o.trans HX.o⟩
  .have t0:decide ((i:Int)<s1.idx)=false:=by simpa using hlt
   have lL:s1.mK nm (prev.take i)=s1.mK nm prev:=by
    by_cases he:s1.err=0
    .have h1:=hle he
     have h2:=HI.o he;rw [List.take_of_length_le ae]
    .rw [St.oO _ _ _ he,St.oO _ _ _ he]
   rw [lL]at hk;clear lL hle hz;go_wp2
   exact bodyPost_end (v:= .tuple #[]) ax rfl ⟨rfl,hk,X1.o.trans hx⟩
theorem ct.aF {w:World} {a:Option Addr} {c:Nat} {l:List dK} (h:ct w 3 a c (l.map dK.cells)) (i:Nat) (hi:i<l.length): ∃b o,a=some ⟨b,o,none⟩/\w.cell? ⟨b,o+i*3,none⟩=some (.string l[i].name)/\w.cell? ⟨b,o+i*3+1,none⟩=some (.slice l[i].da l[i].cV.length l[i].dc)/\w.cell? ⟨b,o+i*3+2,none⟩=some (i64 l[i].jF):=by
 obtain ⟨b,o,ha,hc⟩:=h.cell i (by simpa using hi);simp only [List.getElem_map]at hc;exact ⟨b,o,ha,hc 0 (by simp [dK.cells]),hc 1 (by simp [dK.cells]),hc 2 (by simp [dK.cells])⟩
theorem dK.at {w:World} {E:Nat} {T:TypeId} {x:dK} (h:aT w E T x.cells):w.cell? ⟨E,0,none⟩=some (.string x.name)/\w.cell? ⟨E,1,none⟩=some (.slice x.da x.cV.length x.dc)/\w.cell? ⟨E,2,none⟩=some (i64 x.jF):=
 ⟨(h.cell 0).trans rfl,(h.cell 1).trans rfl,(h.cell 2).trans rfl⟩
theorem ct.lines {w:World} {a:Option Addr} {c:Nat} {l:List bn} (h:ct w 12 a c (l.map bn.cells)) (i:Nat) (hi:i<l.length): ∃b o,a=some ⟨b,o,none⟩/\w.cell? ⟨b,o+i*12,none⟩=some (.string l[i].name)/\w.cell? ⟨b,o+i*12+1,none⟩=some (i64 l[i].dL)/\w.cell? ⟨b,o+i*12+2,none⟩=some (i64 l[i].ld)/\w.cell? ⟨b,o+i*12+3,none⟩=some (i64 l[i].rn)/\w.cell? ⟨b,o+i*12+4,none⟩=some (i64 l[i].rd)/\w.cell? ⟨b,o+i*12+5,none⟩=some (i64 l[i].uH)/\w.cell? ⟨b,o+i*12+6,none⟩=some (i64 l[i].yt)/\w.cell? ⟨b,o+i*12+7,none⟩=some (i64 l[i].vw)/\w.cell? ⟨b,o+i*12+8,none⟩=some (i64 l[i].Bn)/\w.cell? ⟨b,o+i*12+9,none⟩=some (i64 l[i].dO)/\w.cell? ⟨b,o+i*12+10,none⟩=some (i64 l[i].kK)/\w.cell? ⟨b,o+i*12+11,none⟩=some (.slice l[i].aa l[i].away.length l[i].ac):=by
 obtain ⟨b,o,ha,hc⟩:=h.cell i (by simpa using hi);simp only [List.getElem_map]at hc;exact ⟨b,o,ha,hc 0 (by simp [bn.cells]),hc 1 (by simp [bn.cells]),hc 2 (by simp [bn.cells]),hc 3 (by simp [bn.cells]),hc 4 (by simp [bn.cells]),hc 5 (by simp [bn.cells]),hc 6 (by simp [bn.cells]),hc 7 (by simp [bn.cells]),hc 8 (by simp [bn.cells]),hc 9 (by simp [bn.cells]),hc 10 (by simp [bn.cells]),hc 11 (by simp [bn.cells])⟩
theorem bn.at {w:World} {E:Nat} {T:TypeId} {x:bn} (h:aT w E T x.cells):w.cell? ⟨E,0,none⟩=some (.string x.name)/\w.cell? ⟨E,1,none⟩=some (i64 x.dL)/\w.cell? ⟨E,2,none⟩=some (i64 x.ld)/\w.cell? ⟨E,3,none⟩=some (i64 x.rn)/\w.cell? ⟨E,4,none⟩=some (i64 x.rd)/\w.cell? ⟨E,5,none⟩=some (i64 x.uH)/\w.cell? ⟨E,6,none⟩=some (i64 x.yt)/\w.cell? ⟨E,7,none⟩=some (i64 x.vw)/\w.cell? ⟨E,8,none⟩=some (i64 x.Bn)/\w.cell? ⟨E,9,none⟩=some (i64 x.dO)/\w.cell? ⟨E,10,none⟩=some (i64 x.kK)/\w.cell? ⟨E,11,none⟩=some (.slice x.aa x.away.length x.ac):=
 ⟨(h.cell 0).trans rfl,(h.cell 1).trans rfl,(h.cell 2).trans rfl,(h.cell 3).trans rfl,(h.cell 4).trans rfl,(h.cell 5).trans rfl,(h.cell 6).trans rfl,(h.cell 7).trans rfl,(h.cell 8).trans rfl,(h.cell 9).trans rfl,(h.cell 10).trans rfl,(h.cell 11).trans rfl⟩
theorem ct.aA {w:World} {a:Option Addr} {c:Nat} {l:List aP} (h:ct w 22 a c (l.map aP.cells)) (i:Nat) (hi:i<l.length): ∃b o,a=some ⟨b,o,none⟩/\w.cell? ⟨b,o+i*22,none⟩=some (.string l[i].name)/\w.cell? ⟨b,o+i*22+1,none⟩=some (i64 l[i].fE)/\w.cell? ⟨b,o+i*22+2,none⟩=some (i64 l[i].min)/\w.cell? ⟨b,o+i*22+3,none⟩=some (i64 l[i].max)/\w.cell? ⟨b,o+i*22+4,none⟩=some (.slice l[i].sa l[i].aY.length l[i].sc)/\w.cell? ⟨b,o+i*22+5,none⟩=some (i64 l[i].fF)/\w.cell? ⟨b,o+i*22+6,none⟩=some (i64 l[i].fG)/\w.cell? ⟨b,o+i*22+7,none⟩=some (i64 l[i].dA)/\w.cell? ⟨b,o+i*22+8,none⟩=some (i64 l[i].cQ)/\w.cell? ⟨b,o+i*22+9,none⟩=some (i64 l[i].dB)/\w.cell? ⟨b,o+i*22+10,none⟩=some (i64 l[i].eK)/\w.cell? ⟨b,o+i*22+11,none⟩=some (i64 l[i].dC)/\w.cell? ⟨b,o+i*22+12,none⟩=some (i64 l[i].startTime)/\w.cell? ⟨b,o+i*22+13,none⟩=some (i64 l[i].dX)/\w.cell? ⟨b,o+i*22+14,none⟩=some (i64 l[i].dD)/\w.cell? ⟨b,o+i*22+15,none⟩=some (i64 l[i].dE)/\w.cell? ⟨b,o+i*22+16,none⟩=some (i64 l[i].aX)/\w.cell? ⟨b,o+i*22+17,none⟩=some (i64 l[i].bR)/\w.cell? ⟨b,o+i*22+18,none⟩=some (.slice l[i].aa l[i].away.length l[i].ac)/\w.cell? ⟨b,o+i*22+19,none⟩=some (i64 l[i].state)/\w.cell? ⟨b,o+i*22+20,none⟩=some (i64 l[i].hours)/\w.cell? ⟨b,o+i*22+21,none⟩=some (i64 l[i].output):=by
 obtain ⟨b,o,ha,hc⟩:=h.cell i (by simpa using hi);simp only [List.getElem_map]at hc;exact ⟨b,o,ha,hc 0 (by simp [aP.cells]),hc 1 (by simp [aP.cells]),hc 2 (by simp [aP.cells]),hc 3 (by simp [aP.cells]),hc 4 (by simp [aP.cells]),hc 5 (by simp [aP.cells]),hc 6 (by simp [aP.cells]),hc 7 (by simp [aP.cells]),hc 8 (by simp [aP.cells]),hc 9 (by simp [aP.cells]),hc 10 (by simp [aP.cells]),hc 11 (by simp [aP.cells]),hc 12 (by simp [aP.cells]),hc 13 (by simp [aP.cells]),hc 14 (by simp [aP.cells]),hc 15 (by simp [aP.cells]),hc 16 (by simp [aP.cells]),hc 17 (by simp [aP.cells]),hc 18 (by simp [aP.cells]),hc 19 (by simp [aP.cells]),hc 20 (by simp [aP.cells]),hc 21 (by simp [aP.cells])⟩
theorem aP.at {w:World} {E:Nat} {T:TypeId} {x:aP} (h:aT w E T x.cells):w.cell? ⟨E,0,none⟩=some (.string x.name)/\w.cell? ⟨E,1,none⟩=some (i64 x.fE)/\w.cell? ⟨E,2,none⟩=some (i64 x.min)/\w.cell? ⟨E,3,none⟩=some (i64 x.max)/\w.cell? ⟨E,4,none⟩=some (.slice x.sa x.aY.length x.sc)/\w.cell? ⟨E,5,none⟩=some (i64 x.fF)/\w.cell? ⟨E,6,none⟩=some (i64 x.fG)/\w.cell? ⟨E,7,none⟩=some (i64 x.dA)/\w.cell? ⟨E,8,none⟩=some (i64 x.cQ)/\w.cell? ⟨E,9,none⟩=some (i64 x.dB)/\w.cell? ⟨E,10,none⟩=some (i64 x.eK)/\w.cell? ⟨E,11,none⟩=some (i64 x.dC)/\w.cell? ⟨E,12,none⟩=some (i64 x.startTime)/\w.cell? ⟨E,13,none⟩=some (i64 x.dX)/\w.cell? ⟨E,14,none⟩=some (i64 x.dD)/\w.cell? ⟨E,15,none⟩=some (i64 x.dE)/\w.cell? ⟨E,16,none⟩=some (i64 x.aX)/\w.cell? ⟨E,17,none⟩=some (i64 x.bR)/\w.cell? ⟨E,18,none⟩=some (.slice x.aa x.away.length x.ac)/\w.cell? ⟨E,19,none⟩=some (i64 x.state)/\w.cell? ⟨E,20,none⟩=some (i64 x.hours)/\w.cell? ⟨E,21,none⟩=some (i64 x.output):=
 ⟨(h.cell 0).trans rfl,(h.cell 1).trans rfl,(h.cell 2).trans rfl,(h.cell 3).trans rfl,(h.cell 4).trans rfl,(h.cell 5).trans rfl,(h.cell 6).trans rfl,(h.cell 7).trans rfl,(h.cell 8).trans rfl,(h.cell 9).trans rfl,(h.cell 10).trans rfl,(h.cell 11).trans rfl,(h.cell 12).trans rfl,(h.cell 13).trans rfl,(h.cell 14).trans rfl,(h.cell 15).trans rfl,(h.cell 16).trans rfl,(h.cell 17).trans rfl,(h.cell 18).trans rfl,(h.cell 19).trans rfl,(h.cell 20).trans rfl,(h.cell 21).trans rfl⟩
theorem ct.stores {w:World} {a:Option Addr} {c:Nat} {l:List bW} (h:ct w 9 a c (l.map bW.cells)) (i:Nat) (hi:i<l.length): ∃b o,a=some ⟨b,o,none⟩/\w.cell? ⟨b,o+i*9,none⟩=some (.string l[i].name)/\w.cell? ⟨b,o+i*9+1,none⟩=some (i64 l[i].fE)/\w.cell? ⟨b,o+i*9+2,none⟩=some (i64 l[i].capacity)/\w.cell? ⟨b,o+i*9+3,none⟩=some (i64 l[i].initial)/\w.cell? ⟨b,o+i*9+4,none⟩=some (i64 l[i].final)/\w.cell? ⟨b,o+i*9+5,none⟩=some (i64 l[i].gN)/\w.cell? ⟨b,o+i*9+6,none⟩=some (i64 l[i].discharge)/\w.cell? ⟨b,o+i*9+7,none⟩=some (i64 l[i].en)/\w.cell? ⟨b,o+i*9+8,none⟩=some (i64 l[i].ed):=by
 obtain ⟨b,o,ha,hc⟩:=h.cell i (by simpa using hi);simp only [List.getElem_map]at hc;exact ⟨b,o,ha,hc 0 (by simp [bW.cells]),hc 1 (by simp [bW.cells]),hc 2 (by simp [bW.cells]),hc 3 (by simp [bW.cells]),hc 4 (by simp [bW.cells]),hc 5 (by simp [bW.cells]),hc 6 (by simp [bW.cells]),hc 7 (by simp [bW.cells]),hc 8 (by simp [bW.cells])⟩
theorem bW.at {w:World} {E:Nat} {T:TypeId} {x:bW} (h:aT w E T x.cells):w.cell? ⟨E,0,none⟩=some (.string x.name)/\w.cell? ⟨E,1,none⟩=some (i64 x.fE)/\w.cell? ⟨E,2,none⟩=some (i64 x.capacity)/\w.cell? ⟨E,3,none⟩=some (i64 x.initial)/\w.cell? ⟨E,4,none⟩=some (i64 x.final)/\w.cell? ⟨E,5,none⟩=some (i64 x.gN)/\w.cell? ⟨E,6,none⟩=some (i64 x.discharge)/\w.cell? ⟨E,7,none⟩=some (i64 x.en)/\w.cell? ⟨E,8,none⟩=some (i64 x.ed):=
 ⟨(h.cell 0).trans rfl,(h.cell 1).trans rfl,(h.cell 2).trans rfl,(h.cell 3).trans rfl,(h.cell 4).trans rfl,(h.cell 5).trans rfl,(h.cell 6).trans rfl,(h.cell 7).trans rfl,(h.cell 8).trans rfl⟩
theorem ct.bh {w:World} {a:Option Addr} {c:Nat} {l:List fp} (h:ct w 5 a c (l.map fp.cells)) (i:Nat) (hi:i<l.length): ∃b o,a=some ⟨b,o,none⟩/\w.cell? ⟨b,o+i*5,none⟩=some (.string l[i].name)/\w.cell? ⟨b,o+i*5+1,none⟩=some (i64 l[i].fE)/\w.cell? ⟨b,o+i*5+2,none⟩=some (.slice l[i].ia l[i].imp.length l[i].ic)/\w.cell? ⟨b,o+i*5+3,none⟩=some (.slice l[i].ea l[i].exp.length l[i].ec)/\w.cell? ⟨b,o+i*5+4,none⟩=some (.slice l[i].pa l[i].bE.length l[i].pc):=by
 obtain ⟨b,o,ha,hc⟩:=h.cell i (by simpa using hi);simp only [List.getElem_map]at hc;exact ⟨b,o,ha,hc 0 (by simp [fp.cells]),hc 1 (by simp [fp.cells]),hc 2 (by simp [fp.cells]),hc 3 (by simp [fp.cells]),hc 4 (by simp [fp.cells])⟩
theorem fp.at {w:World} {E:Nat} {T:TypeId} {x:fp} (h:aT w E T x.cells):w.cell? ⟨E,0,none⟩=some (.string x.name)/\w.cell? ⟨E,1,none⟩=some (i64 x.fE)/\w.cell? ⟨E,2,none⟩=some (.slice x.ia x.imp.length x.ic)/\w.cell? ⟨E,3,none⟩=some (.slice x.ea x.exp.length x.ec)/\w.cell? ⟨E,4,none⟩=some (.slice x.pa x.bE.length x.pc):=
 ⟨(h.cell 0).trans rfl,(h.cell 1).trans rfl,(h.cell 2).trans rfl,(h.cell 3).trans rfl,(h.cell 4).trans rfl⟩
theorem ct.outs {w:World} {a:Option Addr} {c:Nat} {l:List cJ} (h:ct w 4 a c (l.map cJ.cells)) (i:Nat) (hi:i<l.length): ∃b o,a=some ⟨b,o,none⟩/\w.cell? ⟨b,o+i*4,none⟩=some (.string l[i].name)/\w.cell? ⟨b,o+i*4+1,none⟩=some (.slice l[i].la l[i].lines.length l[i].lc)/\w.cell? ⟨b,o+i*4+2,none⟩=some (.bool l[i].cd)/\w.cell? ⟨b,o+i*4+3,none⟩=some (.slice l[i].ma l[i].moves.length l[i].mc):=by
 obtain ⟨b,o,ha,hc⟩:=h.cell i (by simpa using hi);simp only [List.getElem_map]at hc;exact ⟨b,o,ha,hc 0 (by simp [cJ.cells]),hc 1 (by simp [cJ.cells]),hc 2 (by simp [cJ.cells]),hc 3 (by simp [cJ.cells])⟩
theorem cJ.at {w:World} {E:Nat} {T:TypeId} {x:cJ} (h:aT w E T x.cells):w.cell? ⟨E,0,none⟩=some (.string x.name)/\w.cell? ⟨E,1,none⟩=some (.slice x.la x.lines.length x.lc)/\w.cell? ⟨E,2,none⟩=some (.bool x.cd)/\w.cell? ⟨E,3,none⟩=some (.slice x.ma x.moves.length x.mc):=
 ⟨(h.cell 0).trans rfl,(h.cell 1).trans rfl,(h.cell 2).trans rfl,(h.cell 3).trans rfl⟩
theorem ct.aY {w:World} {a:Option Addr} {c:Nat} {l:List dy} (h:ct w 2 a c (l.map dy.cells)) (i:Nat) (hi:i<l.length): ∃b o,a=some ⟨b,o,none⟩/\w.cell? ⟨b,o+i*2,none⟩=some (i64 l[i].width)/\w.cell? ⟨b,o+i*2+1,none⟩=some (i64 l[i].bE):=by
 obtain ⟨b,o,ha,hc⟩:=h.cell i (by simpa using hi);simp only [List.getElem_map]at hc;exact ⟨b,o,ha,hc 0 (by simp [dy.cells]),hc 1 (by simp [dy.cells])⟩
theorem dy.at {w:World} {E:Nat} {T:TypeId} {x:dy} (h:aT w E T x.cells):w.cell? ⟨E,0,none⟩=some (i64 x.width)/\w.cell? ⟨E,1,none⟩=some (i64 x.bE):=
 ⟨(h.cell 0).trans rfl,(h.cell 1).trans rfl⟩
theorem ct.moves {w:World} {a:Option Addr} {c:Nat} {l:List cj} (h:ct w 3 a c (l.map cj.cells)) (i:Nat) (hi:i<l.length): ∃b o,a=some ⟨b,o,none⟩/\w.cell? ⟨b,o+i*3,none⟩=some (i64 l[i].unit)/\w.cell? ⟨b,o+i*3+1,none⟩=some (i64 l[i].up)/\w.cell? ⟨b,o+i*3+2,none⟩=some (i64 l[i].down):=by
 obtain ⟨b,o,ha,hc⟩:=h.cell i (by simpa using hi);simp only [List.getElem_map]at hc;exact ⟨b,o,ha,hc 0 (by simp [cj.cells]),hc 1 (by simp [cj.cells]),hc 2 (by simp [cj.cells])⟩
theorem cj.at {w:World} {E:Nat} {T:TypeId} {x:cj} (h:aT w E T x.cells):w.cell? ⟨E,0,none⟩=some (i64 x.unit)/\w.cell? ⟨E,1,none⟩=some (i64 x.up)/\w.cell? ⟨E,2,none⟩=some (i64 x.down):=
 ⟨(h.cell 0).trans rfl,(h.cell 1).trans rfl,(h.cell 2).trans rfl⟩
theorem aT.but {K:Nat} {w w':World} {b:Nat} {T:TypeId} {vs:List Value} (h:aT w b T vs) (e:aB K w w') (hb:b≠K):aT w' b T vs:=by
 unfold aT;rw [e.block b h.lt hb];exact h
theorem bU {K:Nat} {w w':World} {p:Addr} {v:Value} (h:w.cell? p=some v) (e:aB K w w') (hb:p.block≠K):w'.cell? p=some v:=by
 have h2:=cY h;unfold World.cell? at*;rw [e.block _ h2 hb];exact h
theorem Lr (w0 V:World) (K B:Nat) (c:ay) (s:St) (i:Nat) (hK:w0.heap.size<=K) (hV:Ext w0 V) (hc:bm w0 c) (h:iW V K c s) (hB:V.cell? ⟨B,0,none⟩=some (.pointer (some ⟨K,0,none⟩))) (hi:i<c.aF.length):
 Calls prog 116 #[i64 i,.pointer (some ⟨B,0,none⟩)] V λe w'=>e= .returned (.string c.aF[i].name)/\w'=V:=by
 have hr:=(hc.aF.ext hV);have hle:=hr.le;have dS:=hr.cap
 rw [List.length_map]at hle;obtain ⟨b,o,ha,c0,-⟩:=hr.aF i hi;obtain ⟨k0,k1,k2,k3,k4,k5,k6,k7⟩:=eM h;rw [ha]at k2;have iM:(0:Int)<=(i:Int):=ae;have iK:(i:Int)<(c.aF.length:Int):=ae;clear h hc hr hV ha;go_enter func116,ntmps116
 go_wp2
 go_ret;exact ⟨rfl,rfl⟩
theorem Ls (w0 V:World) (K B:Nat) (c:ay) (s:St) (i:Nat) (hK:w0.heap.size<=K) (hV:Ext w0 V) (hc:bm w0 c) (h:iW V K c s) (hB:V.cell? ⟨B,0,none⟩=some (.pointer (some ⟨K,0,none⟩))) (hi:i<c.lines.length):
 Calls prog 117 #[i64 i,.pointer (some ⟨B,0,none⟩)] V λe w'=>e= .returned (.string c.lines[i].name)/\w'=V:=by
 have hr:=(hc.lines.ext hV);have hle:=hr.le;have dS:=hr.cap
 rw [List.length_map]at hle;obtain ⟨b,o,ha,c0,-⟩:=hr.lines i hi;obtain ⟨k0,k1,k2,k3,k4,k5,k6,k7⟩:=eM h;rw [ha]at k3;have iM:(0:Int)<=(i:Int):=ae;have iK:(i:Int)<(c.lines.length:Int):=ae;clear h hc hr hV ha;go_enter func117,ntmps117
 go_wp2
 go_ret;exact ⟨rfl,rfl⟩
theorem Lt (w0 V:World) (K B:Nat) (c:ay) (s:St) (i:Nat) (hK:w0.heap.size<=K) (hV:Ext w0 V) (hc:bm w0 c) (h:iW V K c s) (hB:V.cell? ⟨B,0,none⟩=some (.pointer (some ⟨K,0,none⟩))) (hi:i<c.aA.length):
 Calls prog 121 #[i64 i,.pointer (some ⟨B,0,none⟩)] V λe w'=>e= .returned (.string c.aA[i].name)/\w'=V:=by
 have hr:=(hc.aA.ext hV);have hle:=hr.le;have dS:=hr.cap
 rw [List.length_map]at hle;obtain ⟨b,o,ha,c0,-⟩:=hr.aA i hi;obtain ⟨k0,k1,k2,k3,k4,k5,k6,k7⟩:=eM h;rw [ha]at k4;have iM:(0:Int)<=(i:Int):=ae;have iK:(i:Int)<(c.aA.length:Int):=ae;clear h hc hr hV ha;go_enter func121,ntmps121
 go_wp2
 go_ret;exact ⟨rfl,rfl⟩
theorem I4 (w0 V:World) (K B:Nat) (c:ay) (s:St) (i:Nat) (hK:w0.heap.size<=K) (hV:Ext w0 V) (hc:bm w0 c) (h:iW V K c s) (hB:V.cell? ⟨B,0,none⟩=some (.pointer (some ⟨K,0,none⟩))) (hi:i<c.stores.length):
 Calls prog 123 #[i64 i,.pointer (some ⟨B,0,none⟩)] V λe w'=>e= .returned (.string c.stores[i].name)/\w'=V:=by
 have hr:=(hc.stores.ext hV);have hle:=hr.le;have dS:=hr.cap
 rw [List.length_map]at hle;obtain ⟨b,o,ha,c0,-⟩:=hr.stores i hi;obtain ⟨k0,k1,k2,k3,k4,k5,k6,k7⟩:=eM h;rw [ha]at k5;have iM:(0:Int)<=(i:Int):=ae;have iK:(i:Int)<(c.stores.length:Int):=ae;clear h hc hr hV ha;go_enter func123,ntmps123
 go_wp2
 go_ret;exact ⟨rfl,rfl⟩
theorem Od (w0 V:World) (K B:Nat) (c:ay) (s:St) (i:Nat) (hK:w0.heap.size<=K) (hV:Ext w0 V) (hc:bm w0 c) (h:iW V K c s) (hB:V.cell? ⟨B,0,none⟩=some (.pointer (some ⟨K,0,none⟩))) (hi:i<c.bh.length):
 Calls prog 124 #[i64 i,.pointer (some ⟨B,0,none⟩)] V λe w'=>e= .returned (.string c.bh[i].name)/\w'=V:=by
 have hr:=(hc.bh.ext hV);have hle:=hr.le;have dS:=hr.cap
 rw [List.length_map]at hle;obtain ⟨b,o,ha,c0,-⟩:=hr.bh i hi;obtain ⟨k0,k1,k2,k3,k4,k5,k6,k7⟩:=eM h;rw [ha]at k6;have iM:(0:Int)<=(i:Int):=ae;have iK:(i:Int)<(c.bh.length:Int):=ae;clear h hc hr hV ha;go_enter func124,ntmps124
 go_wp2
 go_ret;exact ⟨rfl,rfl⟩
theorem Oe (w0 V:World) (K B:Nat) (c:ay) (s:St) (i:Nat) (hK:w0.heap.size<=K) (hV:Ext w0 V) (hc:bm w0 c) (h:iW V K c s) (hB:V.cell? ⟨B,0,none⟩=some (.pointer (some ⟨K,0,none⟩))) (hi:i<c.outs.length):
 Calls prog 125 #[i64 i,.pointer (some ⟨B,0,none⟩)] V λe w'=>e= .returned (.string c.outs[i].name)/\w'=V:=by
 have hr:=(hc.outs.ext hV);have hle:=hr.le;have dS:=hr.cap
 rw [List.length_map]at hle;obtain ⟨b,o,ha,c0,-⟩:=hr.outs i hi;obtain ⟨k0,k1,k2,k3,k4,k5,k6,k7⟩:=eM h;rw [ha]at k7;have iM:(0:Int)<=(i:Int):=ae;have iK:(i:Int)<(c.outs.length:Int):=ae;clear h hc hr hV ha;go_enter func125,ntmps125
 go_wp2
 go_ret;exact ⟨rfl,rfl⟩
theorem xp {m:Nat}: ∀(rows:List (List Value)),(∀r∈rows,r.length=m)-> ∀(i j:Nat) (hi:i<rows.length),j<m->rows.flatten[i*m+j]?=(rows[i])[j]?
 | [],_,i,_,hi,_=>absurd hi (Nat.not_lt_zero _)
 |r::rows,h,0,j,_,hj=>by
  have hr:=h r aG;rw [List.flatten_cons,Nat.zero_mul,Nat.zero_add,List.getElem?_append_left ae];rfl
 |r::rows,h,i+1,j,hi,hj=>by
  have hr:=h r aG;have h2:=xp rows (λx hx=>h x (by simp [hx])) i j (by simpa using hi) hj;rw [List.flatten_cons,List.getElem?_append_right (by rw [hr,Nat.succ_mul];omega),hr,show(i+1)*m+j-m=i*m+j by rw [Nat.succ_mul];omega,h2];rfl
theorem ki {m:Nat}: ∀(rows:List (List Value)),(∀r∈rows,r.length=m)->rows.flatten.length=rows.length*m
 | [],_=>aG
 |r::rows,h=>by rw [List.flatten_cons,List.length_append,ki rows (λx hx=>h x (by simp [hx])),h r aG,List.length_cons,Nat.succ_mul];omega
structure aL (w:World) (B:Nat) (e:TypeId) (m:Nat) (v:Value) (rows:List (List Value)):Prop where
 own:w.ownsRow B e m v rows.length rows.flatten
 len: ∀r∈rows,r.length=m
theorem aL.nil (w:World) (B:Nat) (e:TypeId) (m:Nat):aL w B e m (.slice none 0 0) []:=⟨⟨aG,.inl ⟨rfl,rfl⟩⟩,λ_ h=>by cases h⟩
theorem aL.ext {w w':World} {B:Nat} {e:TypeId} {m:Nat} {v:Value} {rows:List (List Value)} (h:aL w B e m v rows) (x:Ext w w'):aL w' B e m v rows:=⟨bZ h.own x,h.len⟩
theorem aL.snoc {w w':World} {B:Nat} {e:TypeId} {m:Nat} {v v':Value} {rows:List (List Value)} {r:List Value} (h:aL w B e m v rows) (hr:r.length=m) (hn:w'.ownsRow B e m v' (rows.length+1) (rows.flatten++r)):aL w' B e m v' (rows++ [r]):=
 ⟨by rw [List.length_append,List.flatten_append];simpa using hn,λx hx=>by rcases List.mem_append.1 hx with h1|h1;exact h.len x h1;rw [List.mem_singleton]at h1;rw [h1];exact hr⟩
theorem aL.recs {w:World} {B:Nat} {e:TypeId} {m:Nat} {v:Value} {rows:List (List Value)} (h:aL w B e m v rows) (hm:0<m): ∃a c,v= .slice a rows.length c/\ct w m a c rows/\Fr B a:=by
 have hfl:=ki rows h.len;rcases h.own.2 with⟨rfl,h0⟩|⟨g,cap,cur,rfl,hb,hg,hn,dS,hcs,qR⟩
 .refine ⟨none,0,?_,⟨ae,ae,λi hi=>ae⟩,Fr.none _⟩
  rw [h0]
 .refine ⟨some ⟨g,0,none⟩,cap,rfl,⟨hn,by unfold maxLen at dS;omega,λi hi=>⟨g,0,rfl,λj hj=> ?_⟩⟩,Fr.some hb⟩
  have hlen:=h.len rows[i] (List.getElem_mem hi);have hj':j<m:=ae;have h2:=xp rows h.len i j hi hj';rw [<-qR,List.getElem?_take]at h2
  have hlt:i*m+j<rows.length*m:=by
   have:(i+1)*m<=rows.length*m:=Nat.mul_le_mul_right _ hi;rw [Nat.succ_mul]at this;omega
  rw [if_pos hlt,List.getElem?_eq_getElem hj]at h2;simp only [World.cell?,hg,Nat.zero_add];simpa using h2
theorem Tryz.info_string:(Tryz.prog.info? 9).map (λi=>(i.zero,i.size,i.bytes))=some (some (.string ByteArray.empty),1,16):=ax
abbrev lh (w:World) (a:Option Addr) (c:Nat) (l:List ByteArray):Prop:=ct w 1 a c (l.map λs=> [.string s])
theorem lh.cell {w:World} {a:Option Addr} {c:Nat} {l:List ByteArray} (h:lh w a c l) (i:Nat) (hi:i<l.length): ∃b o,a=some ⟨b,o,none⟩/\w.cell? ⟨b,o+i,none⟩=some (.string l[i]):=by
 obtain ⟨b,o,ha,hc⟩:=ct.cell h i (by simpa using hi);refine ⟨b,o,ha,?_⟩;have:=hc 0 aG;simpa using this
def dV (c:ay) (kind:Int):List ByteArray:=if kind=1 then c.aF.map dK.name else if kind=2 then c.lines.map bn.name else if kind=3 then c.aA.map aP.name else if kind=4 then c.stores.map bW.name else if kind=5 then c.bh.map fp.name else if kind=6 then c.outs.map cJ.name else []
theorem p7 (c:ay):dV c 1=c.aF.map dK.name:=by unfold dV;rw [if_pos rfl]
theorem p8 (c:ay):dV c 2=c.lines.map bn.name:=by unfold dV;rw [if_neg aq,if_pos rfl]
theorem p9 (c:ay):dV c 3=c.aA.map aP.name:=by unfold dV;rw [if_neg aq,if_neg aq,if_pos rfl]
theorem oP (c:ay):dV c 4=c.stores.map bW.name:=by unfold dV;rw [if_neg aq,if_neg aq,if_neg aq,if_pos rfl]
theorem rU (c:ay):dV c 5=c.bh.map fp.name:=by unfold dV;rw [if_neg aq,if_neg aq,if_neg aq,if_neg aq,if_pos rfl]
theorem rV (c:ay):dV c 6=c.outs.map cJ.name:=by unfold dV;rw [if_neg aq,if_neg aq,if_neg aq,if_neg aq,if_neg aq,if_pos rfl]
theorem vB (w0 V:World) (c:ay) (hV:Ext w0 V) (hc:bm w0 c) (hn:c.aF.length<=1000000):
 Calls prog 100 #[.agg (C8 c),i64 1] V λe w'=> ∃a cap,e= .returned (.slice a c.aF.length cap)/\lh w' a cap (c.aF.map dK.name)/\Ext V w'/\Fr V.heap.size a:=by
 try unfold C8
 have hr:=hc.aF;have hle:=hr.le;have dS:=hr.cap
 rw [List.length_map]at hle;have HR:=ah hr;have HV:=ah hV;have HN:=ah hn
 clear hc hr hV hn;go_enter func100,ntmps100
 go_upto_region 1 with fail
 obtain ⟨W,hW,x0,Z0,A0⟩:=aV V 32 c.cells;rw [show V.alloc (.cells (C8 c) 32)=W from hW.symm];clear hW;have HA:=ah A0;have HX:=ah x0
 obtain ⟨B,hB⟩: ∃B,B=V.heap.size:=⟨_,rfl⟩;rw [<-hB]at HA⊢;clear A0 x0 Z0 hB;go_wp2
 go_loopw [5,6] (λv ii wr=> ∃i:Nat,i<=c.aF.length/\aL wr W.heap.size 9 1 v ((c.aF.take i).map λx=> [.string x.name])/\Ext W wr/\ii= .int .i64 i) (λ_ ii _=>c.aF.length-(intOf ii).toNat)
 case atStart=>exact ⟨0,aZ,aL.nil _ _ _ _,ar,rfl⟩
 case round=>
  obtain ⟨i,hi,hown,hE,rfl⟩:=hrel;have HO:=ah hown;obtain ⟨-,-,k2,k3,k4,k5,k6,k7⟩:=ay.at (HA.o.ext hE);clear hown;by_cases hlt:i<c.aF.length
  .obtain ⟨b,o,ha,c0,-⟩:=((HR.o.ext HV.o).ext (HX.o.trans hE)).aF i hlt
   have HST:Hid ((c.aF.take (i+1)).map (λx=> [Value.string x.name])=(c.aF.take i).map (λx=> [Value.string x.name])++ [[.string c.aF[i].name]]):=by
    show _=_;rw [List.take_succ_eq_append_getElem hlt,List.map_append];rfl
   generalize c.aF[i].name=nm at*;rw [ha]at k2;have HLEN:Hid (((c.aF.take i).map λx=> [Value.string x.name]).length=i):=by show _=_;simp;omega
   generalize (c.aF.take i).map (λx=> [Value.string x.name])=rows at*;have iM:(0:Int)<=(i:Int):=ae;have iK:(i:Int)<(c.aF.length:Int):=ae;have HE:=ah hE;have vY:=hE.size
   clear ha hE k3 k4 k5 k6 k7
   have HOW:Hid (wr.ownsRow W.heap.size 9 1 u5 i rows.flatten):=by
    have h5:=HO.o.own;rw [HLEN.o]at h5;exact h5
   go_wp2_with (at_builtin;refine bC _ rfl (.tmp 22) (.tmp 29) 139 rfl W.heap.size 9 (.string ByteArray.empty) 1 16 underlying139 Tryz.info_string rfl aq u5 i rows.flatten rfl ?c1 (some ⟨wr.heap.size,0,none⟩) 1 1 [.string nm] rfl rfl ?c2 ?c3 ?c4 ?c5 aq ?c6 ?_;rotate_right;intro v1 w5 ho he hb hz hv)
   case c1=>exact bZ HOW.o (ar.alloc _)
   case c2=>exact λ_=>⟨_,rfl,dH wr 9 [.string nm]⟩
   case c3=>intro u hu;rw [List.mem_singleton]at hu;subst hu;rfl
   case c4=>intro e;cases e
   case c5=>have:=HN.o;omega
   case c6=>have:=vY;simp;omega
   have x5:Ext W w5:=he.o W (HE.o.alloc _) bY;have jl:=HO.o.snoc (w':=w5) (v':=v1) (r:= [.string nm]) rfl (by rw [HLEN.o];exact ho.o);rw [<-HST.o]at jl;exact ⟨⟨i+1,ae,jl,x5,bf⟩,a_⟩
  .obtain rfl:i=c.aF.length:=ae
   rw [List.take_length]at HO;obtain ⟨a,cap,rfl,hS,lJ⟩:=HO.o.recs aq;have e1:(c.aF.map λx=> [Value.string x.name])=(c.aF.map dK.name).map λs=> [Value.string s]:=by rw [List.map_map];rfl
   rw [e1]at hS;have HS:=ah hS;have vZ:=ah lJ
   rw [List.length_map];clear hS e1 HO lJ;go_wp2
   go_ret;exact ⟨a,cap,rfl,HS.o,HX.o.trans hE,vZ.o.mono HX.o.size⟩
theorem vC (w0 V:World) (c:ay) (hV:Ext w0 V) (hc:bm w0 c) (hn:c.lines.length<=1000000):
 Calls prog 100 #[.agg (C8 c),i64 2] V λe w'=> ∃a cap,e= .returned (.slice a c.lines.length cap)/\lh w' a cap (c.lines.map bn.name)/\Ext V w'/\Fr V.heap.size a:=by
 try unfold C8
 have hr:=hc.lines;have hle:=hr.le;have dS:=hr.cap
 rw [List.length_map]at hle;have HR:=ah hr;have HV:=ah hV;have HN:=ah hn
 clear hc hr hV hn;go_enter func100,ntmps100
 go_upto_region 1 with fail
 obtain ⟨W,hW,x0,Z0,A0⟩:=aV V 32 c.cells;rw [show V.alloc (.cells (C8 c) 32)=W from hW.symm];clear hW;have HA:=ah A0;have HX:=ah x0
 obtain ⟨B,hB⟩: ∃B,B=V.heap.size:=⟨_,rfl⟩;rw [<-hB]at HA⊢;clear A0 x0 Z0 hB;go_wp2
 go_loopw [5,7] (λv ii wr=> ∃i:Nat,i<=c.lines.length/\aL wr W.heap.size 9 1 v ((c.lines.take i).map λx=> [.string x.name])/\Ext W wr/\ii= .int .i64 i) (λ_ ii _=>c.lines.length-(intOf ii).toNat)
 case atStart=>exact ⟨0,aZ,aL.nil _ _ _ _,ar,rfl⟩
 case round=>
  obtain ⟨i,hi,hown,hE,rfl⟩:=hrel;have HO:=ah hown;obtain ⟨-,-,k2,k3,k4,k5,k6,k7⟩:=ay.at (HA.o.ext hE);clear hown;by_cases hlt:i<c.lines.length
  .obtain ⟨b,o,ha,c0,-⟩:=((HR.o.ext HV.o).ext (HX.o.trans hE)).lines i hlt
   have HST:Hid ((c.lines.take (i+1)).map (λx=> [Value.string x.name])=(c.lines.take i).map (λx=> [Value.string x.name])++ [[.string c.lines[i].name]]):=by
    show _=_;rw [List.take_succ_eq_append_getElem hlt,List.map_append];rfl
   generalize c.lines[i].name=nm at*;rw [ha]at k3;have HLEN:Hid (((c.lines.take i).map λx=> [Value.string x.name]).length=i):=by show _=_;simp;omega
   generalize (c.lines.take i).map (λx=> [Value.string x.name])=rows at*;have iM:(0:Int)<=(i:Int):=ae;have iK:(i:Int)<(c.lines.length:Int):=ae;have HE:=ah hE;have vY:=hE.size
   clear ha hE k2 k4 k5 k6 k7
   have HOW:Hid (wr.ownsRow W.heap.size 9 1 u5 i rows.flatten):=by
    have h5:=HO.o.own;rw [HLEN.o]at h5;exact h5
   go_wp2_with (at_builtin;refine bC _ rfl (.tmp 40) (.tmp 47) 139 rfl W.heap.size 9 (.string ByteArray.empty) 1 16 underlying139 Tryz.info_string rfl aq u5 i rows.flatten rfl ?c1 (some ⟨wr.heap.size,0,none⟩) 1 1 [.string nm] rfl rfl ?c2 ?c3 ?c4 ?c5 aq ?c6 ?_;rotate_right;intro v1 w5 ho he hb hz hv)
   case c1=>exact bZ HOW.o (ar.alloc _)
   case c2=>exact λ_=>⟨_,rfl,dH wr 9 [.string nm]⟩
   case c3=>intro u hu;rw [List.mem_singleton]at hu;subst hu;rfl
   case c4=>intro e;cases e
   case c5=>have:=HN.o;omega
   case c6=>have:=vY;simp;omega
   have x5:Ext W w5:=he.o W (HE.o.alloc _) bY;have jl:=HO.o.snoc (w':=w5) (v':=v1) (r:= [.string nm]) rfl (by rw [HLEN.o];exact ho.o);rw [<-HST.o]at jl;exact ⟨⟨i+1,ae,jl,x5,bf⟩,a_⟩
  .obtain rfl:i=c.lines.length:=ae
   rw [List.take_length]at HO;obtain ⟨a,cap,rfl,hS,lJ⟩:=HO.o.recs aq;have e1:(c.lines.map λx=> [Value.string x.name])=(c.lines.map bn.name).map λs=> [Value.string s]:=by rw [List.map_map];rfl
   rw [e1]at hS;have HS:=ah hS;have vZ:=ah lJ
   rw [List.length_map];clear hS e1 HO lJ;go_wp2
   go_ret;exact ⟨a,cap,rfl,HS.o,HX.o.trans hE,vZ.o.mono HX.o.size⟩
theorem vD (w0 V:World) (c:ay) (hV:Ext w0 V) (hc:bm w0 c) (hn:c.aA.length<=1000000):
 Calls prog 100 #[.agg (C8 c),i64 3] V λe w'=> ∃a cap,e= .returned (.slice a c.aA.length cap)/\lh w' a cap (c.aA.map aP.name)/\Ext V w'/\Fr V.heap.size a:=by
 try unfold C8
 have hr:=hc.aA;have hle:=hr.le;have dS:=hr.cap
 rw [List.length_map]at hle;have HR:=ah hr;have HV:=ah hV;have HN:=ah hn
 clear hc hr hV hn;go_enter func100,ntmps100
 go_upto_region 1 with fail
 obtain ⟨W,hW,x0,Z0,A0⟩:=aV V 32 c.cells;rw [show V.alloc (.cells (C8 c) 32)=W from hW.symm];clear hW;have HA:=ah A0;have HX:=ah x0
 obtain ⟨B,hB⟩: ∃B,B=V.heap.size:=⟨_,rfl⟩;rw [<-hB]at HA⊢;clear A0 x0 Z0 hB;go_wp2
 go_loopw [5,8] (λv ii wr=> ∃i:Nat,i<=c.aA.length/\aL wr W.heap.size 9 1 v ((c.aA.take i).map λx=> [.string x.name])/\Ext W wr/\ii= .int .i64 i) (λ_ ii _=>c.aA.length-(intOf ii).toNat)
 case atStart=>exact ⟨0,aZ,aL.nil _ _ _ _,ar,rfl⟩
 case round=>
  obtain ⟨i,hi,hown,hE,rfl⟩:=hrel;have HO:=ah hown;obtain ⟨-,-,k2,k3,k4,k5,k6,k7⟩:=ay.at (HA.o.ext hE);clear hown;by_cases hlt:i<c.aA.length
  .obtain ⟨b,o,ha,c0,-⟩:=((HR.o.ext HV.o).ext (HX.o.trans hE)).aA i hlt
   have HST:Hid ((c.aA.take (i+1)).map (λx=> [Value.string x.name])=(c.aA.take i).map (λx=> [Value.string x.name])++ [[.string c.aA[i].name]]):=by
    show _=_;rw [List.take_succ_eq_append_getElem hlt,List.map_append];rfl
   generalize c.aA[i].name=nm at*;rw [ha]at k4;have HLEN:Hid (((c.aA.take i).map λx=> [Value.string x.name]).length=i):=by show _=_;simp;omega
   generalize (c.aA.take i).map (λx=> [Value.string x.name])=rows at*;have iM:(0:Int)<=(i:Int):=ae;have iK:(i:Int)<(c.aA.length:Int):=ae;have HE:=ah hE;have vY:=hE.size
   clear ha hE k2 k3 k5 k6 k7
   have HOW:Hid (wr.ownsRow W.heap.size 9 1 u5 i rows.flatten):=by
    have h5:=HO.o.own;rw [HLEN.o]at h5;exact h5
   go_wp2_with (at_builtin;refine bC _ rfl (.tmp 58) (.tmp 65) 139 rfl W.heap.size 9 (.string ByteArray.empty) 1 16 underlying139 Tryz.info_string rfl aq u5 i rows.flatten rfl ?c1 (some ⟨wr.heap.size,0,none⟩) 1 1 [.string nm] rfl rfl ?c2 ?c3 ?c4 ?c5 aq ?c6 ?_;rotate_right;intro v1 w5 ho he hb hz hv)
   case c1=>exact bZ HOW.o (ar.alloc _)
   case c2=>exact λ_=>⟨_,rfl,dH wr 9 [.string nm]⟩
   case c3=>intro u hu;rw [List.mem_singleton]at hu;subst hu;rfl
   case c4=>intro e;cases e
   case c5=>have:=HN.o;omega
   case c6=>have:=vY;simp;omega
   have x5:Ext W w5:=he.o W (HE.o.alloc _) bY;have jl:=HO.o.snoc (w':=w5) (v':=v1) (r:= [.string nm]) rfl (by rw [HLEN.o];exact ho.o);rw [<-HST.o]at jl;exact ⟨⟨i+1,ae,jl,x5,bf⟩,a_⟩
  .obtain rfl:i=c.aA.length:=ae
   rw [List.take_length]at HO;obtain ⟨a,cap,rfl,hS,lJ⟩:=HO.o.recs aq;have e1:(c.aA.map λx=> [Value.string x.name])=(c.aA.map aP.name).map λs=> [Value.string s]:=by rw [List.map_map];rfl
   rw [e1]at hS;have HS:=ah hS;have vZ:=ah lJ
   rw [List.length_map];clear hS e1 HO lJ;go_wp2
   go_ret;exact ⟨a,cap,rfl,HS.o,HX.o.trans hE,vZ.o.mono HX.o.size⟩
theorem tZ (w0 V:World) (c:ay) (hV:Ext w0 V) (hc:bm w0 c) (hn:c.stores.length<=1000000):
 Calls prog 100 #[.agg (C8 c),i64 4] V λe w'=> ∃a cap,e= .returned (.slice a c.stores.length cap)/\lh w' a cap (c.stores.map bW.name)/\Ext V w'/\Fr V.heap.size a:=by
 try unfold C8
 have hr:=hc.stores;have hle:=hr.le;have dS:=hr.cap
 rw [List.length_map]at hle;have HR:=ah hr;have HV:=ah hV;have HN:=ah hn
 clear hc hr hV hn;go_enter func100,ntmps100
 go_upto_region 1 with fail
 obtain ⟨W,hW,x0,Z0,A0⟩:=aV V 32 c.cells;rw [show V.alloc (.cells (C8 c) 32)=W from hW.symm];clear hW;have HA:=ah A0;have HX:=ah x0
 obtain ⟨B,hB⟩: ∃B,B=V.heap.size:=⟨_,rfl⟩;rw [<-hB]at HA⊢;clear A0 x0 Z0 hB;go_wp2
 go_loopw [5,9] (λv ii wr=> ∃i:Nat,i<=c.stores.length/\aL wr W.heap.size 9 1 v ((c.stores.take i).map λx=> [.string x.name])/\Ext W wr/\ii= .int .i64 i) (λ_ ii _=>c.stores.length-(intOf ii).toNat)
 case atStart=>exact ⟨0,aZ,aL.nil _ _ _ _,ar,rfl⟩
 case round=>
  obtain ⟨i,hi,hown,hE,rfl⟩:=hrel;have HO:=ah hown;obtain ⟨-,-,k2,k3,k4,k5,k6,k7⟩:=ay.at (HA.o.ext hE);clear hown;by_cases hlt:i<c.stores.length
  .obtain ⟨b,o,ha,c0,-⟩:=((HR.o.ext HV.o).ext (HX.o.trans hE)).stores i hlt
   have HST:Hid ((c.stores.take (i+1)).map (λx=> [Value.string x.name])=(c.stores.take i).map (λx=> [Value.string x.name])++ [[.string c.stores[i].name]]):=by
    show _=_;rw [List.take_succ_eq_append_getElem hlt,List.map_append];rfl
   generalize c.stores[i].name=nm at*;rw [ha]at k5;have HLEN:Hid (((c.stores.take i).map λx=> [Value.string x.name]).length=i):=by show _=_;simp;omega
   generalize (c.stores.take i).map (λx=> [Value.string x.name])=rows at*;have iM:(0:Int)<=(i:Int):=ae;have iK:(i:Int)<(c.stores.length:Int):=ae;have HE:=ah hE;have vY:=hE.size
   clear ha hE k2 k3 k4 k6 k7
   have HOW:Hid (wr.ownsRow W.heap.size 9 1 u5 i rows.flatten):=by
    have h5:=HO.o.own;rw [HLEN.o]at h5;exact h5
   go_wp2_with (at_builtin;refine bC _ rfl (.tmp 76) (.tmp 83) 139 rfl W.heap.size 9 (.string ByteArray.empty) 1 16 underlying139 Tryz.info_string rfl aq u5 i rows.flatten rfl ?c1 (some ⟨wr.heap.size,0,none⟩) 1 1 [.string nm] rfl rfl ?c2 ?c3 ?c4 ?c5 aq ?c6 ?_;rotate_right;intro v1 w5 ho he hb hz hv)
   case c1=>exact bZ HOW.o (ar.alloc _)
   case c2=>exact λ_=>⟨_,rfl,dH wr 9 [.string nm]⟩
   case c3=>intro u hu;rw [List.mem_singleton]at hu;subst hu;rfl
   case c4=>intro e;cases e
   case c5=>have:=HN.o;omega
   case c6=>have:=vY;simp;omega
   have x5:Ext W w5:=he.o W (HE.o.alloc _) bY;have jl:=HO.o.snoc (w':=w5) (v':=v1) (r:= [.string nm]) rfl (by rw [HLEN.o];exact ho.o);rw [<-HST.o]at jl;exact ⟨⟨i+1,ae,jl,x5,bf⟩,a_⟩
  .obtain rfl:i=c.stores.length:=ae
   rw [List.take_length]at HO;obtain ⟨a,cap,rfl,hS,lJ⟩:=HO.o.recs aq;have e1:(c.stores.map λx=> [Value.string x.name])=(c.stores.map bW.name).map λs=> [Value.string s]:=by rw [List.map_map];rfl
   rw [e1]at hS;have HS:=ah hS;have vZ:=ah lJ
   rw [List.length_map];clear hS e1 HO lJ;go_wp2
   go_ret;exact ⟨a,cap,rfl,HS.o,HX.o.trans hE,vZ.o.mono HX.o.size⟩
theorem xq (w0 V:World) (c:ay) (hV:Ext w0 V) (hc:bm w0 c) (hn:c.bh.length<=1000000):
 Calls prog 100 #[.agg (C8 c),i64 5] V λe w'=> ∃a cap,e= .returned (.slice a c.bh.length cap)/\lh w' a cap (c.bh.map fp.name)/\Ext V w'/\Fr V.heap.size a:=by
 try unfold C8
 have hr:=hc.bh;have hle:=hr.le;have dS:=hr.cap
 rw [List.length_map]at hle;have HR:=ah hr;have HV:=ah hV;have HN:=ah hn
 clear hc hr hV hn;go_enter func100,ntmps100
 go_upto_region 1 with fail
 obtain ⟨W,hW,x0,Z0,A0⟩:=aV V 32 c.cells;rw [show V.alloc (.cells (C8 c) 32)=W from hW.symm];clear hW;have HA:=ah A0;have HX:=ah x0
 obtain ⟨B,hB⟩: ∃B,B=V.heap.size:=⟨_,rfl⟩;rw [<-hB]at HA⊢;clear A0 x0 Z0 hB;go_wp2
 go_loopw [5,10] (λv ii wr=> ∃i:Nat,i<=c.bh.length/\aL wr W.heap.size 9 1 v ((c.bh.take i).map λx=> [.string x.name])/\Ext W wr/\ii= .int .i64 i) (λ_ ii _=>c.bh.length-(intOf ii).toNat)
 case atStart=>exact ⟨0,aZ,aL.nil _ _ _ _,ar,rfl⟩
 case round=>
  obtain ⟨i,hi,hown,hE,rfl⟩:=hrel;have HO:=ah hown;obtain ⟨-,-,k2,k3,k4,k5,k6,k7⟩:=ay.at (HA.o.ext hE);clear hown;by_cases hlt:i<c.bh.length
  .obtain ⟨b,o,ha,c0,-⟩:=((HR.o.ext HV.o).ext (HX.o.trans hE)).bh i hlt
   have HST:Hid ((c.bh.take (i+1)).map (λx=> [Value.string x.name])=(c.bh.take i).map (λx=> [Value.string x.name])++ [[.string c.bh[i].name]]):=by
    show _=_;rw [List.take_succ_eq_append_getElem hlt,List.map_append];rfl
   generalize c.bh[i].name=nm at*;rw [ha]at k6;have HLEN:Hid (((c.bh.take i).map λx=> [Value.string x.name]).length=i):=by show _=_;simp;omega
   generalize (c.bh.take i).map (λx=> [Value.string x.name])=rows at*;have iM:(0:Int)<=(i:Int):=ae;have iK:(i:Int)<(c.bh.length:Int):=ae;have HE:=ah hE;have vY:=hE.size
   clear ha hE k2 k3 k4 k5 k7
   have HOW:Hid (wr.ownsRow W.heap.size 9 1 u5 i rows.flatten):=by
    have h5:=HO.o.own;rw [HLEN.o]at h5;exact h5
   go_wp2_with (at_builtin;refine bC _ rfl (.tmp 94) (.tmp 101) 139 rfl W.heap.size 9 (.string ByteArray.empty) 1 16 underlying139 Tryz.info_string rfl aq u5 i rows.flatten rfl ?c1 (some ⟨wr.heap.size,0,none⟩) 1 1 [.string nm] rfl rfl ?c2 ?c3 ?c4 ?c5 aq ?c6 ?_;rotate_right;intro v1 w5 ho he hb hz hv)
   case c1=>exact bZ HOW.o (ar.alloc _)
   case c2=>exact λ_=>⟨_,rfl,dH wr 9 [.string nm]⟩
   case c3=>intro u hu;rw [List.mem_singleton]at hu;subst hu;rfl
   case c4=>intro e;cases e
   case c5=>have:=HN.o;omega
   case c6=>have:=vY;simp;omega
   have x5:Ext W w5:=he.o W (HE.o.alloc _) bY;have jl:=HO.o.snoc (w':=w5) (v':=v1) (r:= [.string nm]) rfl (by rw [HLEN.o];exact ho.o);rw [<-HST.o]at jl;exact ⟨⟨i+1,ae,jl,x5,bf⟩,a_⟩
  .obtain rfl:i=c.bh.length:=ae
   rw [List.take_length]at HO;obtain ⟨a,cap,rfl,hS,lJ⟩:=HO.o.recs aq;have e1:(c.bh.map λx=> [Value.string x.name])=(c.bh.map fp.name).map λs=> [Value.string s]:=by rw [List.map_map];rfl
   rw [e1]at hS;have HS:=ah hS;have vZ:=ah lJ
   rw [List.length_map];clear hS e1 HO lJ;go_wp2
   go_ret;exact ⟨a,cap,rfl,HS.o,HX.o.trans hE,vZ.o.mono HX.o.size⟩
theorem xr (w0 V:World) (c:ay) (hV:Ext w0 V) (hc:bm w0 c) (hn:c.outs.length<=1000000):
 Calls prog 100 #[.agg (C8 c),i64 6] V λe w'=> ∃a cap,e= .returned (.slice a c.outs.length cap)/\lh w' a cap (c.outs.map cJ.name)/\Ext V w'/\Fr V.heap.size a:=by
 try unfold C8
 have hr:=hc.outs;have hle:=hr.le;have dS:=hr.cap
 rw [List.length_map]at hle;have HR:=ah hr;have HV:=ah hV;have HN:=ah hn
 clear hc hr hV hn;go_enter func100,ntmps100
 go_upto_region 1 with fail
 obtain ⟨W,hW,x0,Z0,A0⟩:=aV V 32 c.cells;rw [show V.alloc (.cells (C8 c) 32)=W from hW.symm];clear hW;have HA:=ah A0;have HX:=ah x0
 obtain ⟨B,hB⟩: ∃B,B=V.heap.size:=⟨_,rfl⟩;rw [<-hB]at HA⊢;clear A0 x0 Z0 hB;go_wp2
 go_loopw [5,11] (λv ii wr=> ∃i:Nat,i<=c.outs.length/\aL wr W.heap.size 9 1 v ((c.outs.take i).map λx=> [.string x.name])/\Ext W wr/\ii= .int .i64 i) (λ_ ii _=>c.outs.length-(intOf ii).toNat)
 case atStart=>exact ⟨0,aZ,aL.nil _ _ _ _,ar,rfl⟩
 case round=>
  obtain ⟨i,hi,hown,hE,rfl⟩:=hrel;have HO:=ah hown;obtain ⟨-,-,k2,k3,k4,k5,k6,k7⟩:=ay.at (HA.o.ext hE);clear hown;by_cases hlt:i<c.outs.length
  .obtain ⟨b,o,ha,c0,-⟩:=((HR.o.ext HV.o).ext (HX.o.trans hE)).outs i hlt
   have HST:Hid ((c.outs.take (i+1)).map (λx=> [Value.string x.name])=(c.outs.take i).map (λx=> [Value.string x.name])++ [[.string c.outs[i].name]]):=by
    show _=_;rw [List.take_succ_eq_append_getElem hlt,List.map_append];rfl
   generalize c.outs[i].name=nm at*;rw [ha]at k7;have HLEN:Hid (((c.outs.take i).map λx=> [Value.string x.name]).length=i):=by show _=_;simp;omega
   generalize (c.outs.take i).map (λx=> [Value.string x.name])=rows at*;have iM:(0:Int)<=(i:Int):=ae;have iK:(i:Int)<(c.outs.length:Int):=ae;have HE:=ah hE;have vY:=hE.size
   clear ha hE k2 k3 k4 k5 k6
   have HOW:Hid (wr.ownsRow W.heap.size 9 1 u5 i rows.flatten):=by
    have h5:=HO.o.own;rw [HLEN.o]at h5;exact h5
   go_wp2_with (at_builtin;refine bC _ rfl (.tmp 112) (.tmp 119) 139 rfl W.heap.size 9 (.string ByteArray.empty) 1 16 underlying139 Tryz.info_string rfl aq u5 i rows.flatten rfl ?c1 (some ⟨wr.heap.size,0,none⟩) 1 1 [.string nm] rfl rfl ?c2 ?c3 ?c4 ?c5 aq ?c6 ?_;rotate_right;intro v1 w5 ho he hb hz hv)
   case c1=>exact bZ HOW.o (ar.alloc _)
   case c2=>exact λ_=>⟨_,rfl,dH wr 9 [.string nm]⟩
   case c3=>intro u hu;rw [List.mem_singleton]at hu;subst hu;rfl
   case c4=>intro e;cases e
   case c5=>have:=HN.o;omega
   case c6=>have:=vY;simp;omega
   have x5:Ext W w5:=he.o W (HE.o.alloc _) bY;have jl:=HO.o.snoc (w':=w5) (v':=v1) (r:= [.string nm]) rfl (by rw [HLEN.o];exact ho.o);rw [<-HST.o]at jl;exact ⟨⟨i+1,ae,jl,x5,bf⟩,a_⟩
  .obtain rfl:i=c.outs.length:=ae
   rw [List.take_length]at HO;obtain ⟨a,cap,rfl,hS,lJ⟩:=HO.o.recs aq;have e1:(c.outs.map λx=> [Value.string x.name])=(c.outs.map cJ.name).map λs=> [Value.string s]:=by rw [List.map_map];rfl
   rw [e1]at hS;have HS:=ah hS;have vZ:=ah lJ
   rw [List.length_map];clear hS e1 HO lJ;go_wp2
   go_ret;exact ⟨a,cap,rfl,HS.o,HX.o.trans hE,vZ.o.mono HX.o.size⟩
theorem zN (w0 V:World) (c:ay) (kind:Int) (yu:List ByteArray) (hn:dV c kind=yu) (hk:1<=kind/\kind<=6) (hV:Ext w0 V) (hc:bm w0 c) (hl:yu.length<=1000000):
 Calls prog 100 #[.agg (C8 c),i64 kind] V λe w'=> ∃a cap,e= .returned (.slice a yu.length cap)/\lh w' a cap yu/\Ext V w'/\Fr V.heap.size a:=by
 try unfold C8
 rcases (show kind=1\/kind=2\/kind=3\/kind=4\/kind=5\/kind=6 by omega)with e|e|e|e|e|e<;>subst e
 .rw [p7]at hn;subst hn;rw [List.length_map]at hl⊢;exact vB w0 V c hV hc hl
 .rw [p8]at hn;subst hn;rw [List.length_map]at hl⊢;exact vC w0 V c hV hc hl
 .rw [p9]at hn;subst hn;rw [List.length_map]at hl⊢;exact vD w0 V c hV hc hl
 .rw [oP]at hn;subst hn;rw [List.length_map]at hl⊢;exact tZ w0 V c hV hc hl
 .rw [rU]at hn;subst hn;rw [List.length_map]at hl⊢;exact xq w0 V c hV hc hl
 .rw [rV]at hn;subst hn;rw [List.length_map]at hl⊢;exact xr w0 V c hV hc hl
def gJ (e:Int) (nm:ByteArray) (prev:List ByteArray):Int:=nd (nd e (dU nm) 9) (prev.all λp=>Ck p nm) 10
theorem Lu (l:List ByteArray) (f:ByteArray->Bool) (k:Nat) (h:k<l.length):(l.take (k+1)).all f=((l.take k).all f&&f l[k]):=by
 rw [List.take_succ_eq_append_getElem h,List.all_append];simp
theorem lh.but {w w':World} {a:Option Addr} {c K:Nat} {l:List ByteArray} (h:lh w a c l) (x:aB K w w') (hb: ∀p,a=some p->p.block≠K):lh w' a c l:=
 ⟨h.le,h.cap,λi hi=>by
   obtain ⟨b,o,ha,hc⟩:=ct.cell h i hi;exact ⟨b,o,ha,λj hj=>bU (hc j hj) x (show b≠K from hb _ ha)⟩⟩
theorem mL (w0 V:World) (K:Nat) (c:ay) (e:Int) (kind:Int) (i:Nat) (prev yu:List ByteArray) (nm:ByteArray) (hn:dV c kind=yu) (hk:1<=kind/\kind<=6) (h2: ∃h:i<yu.length,yu[i]=nm/\yu.take i=prev) (h3:yu.length<=1000000)
 (hK:w0.heap.size<=K) (hV:Ext w0 V) (hc:bm w0 c) (hsz:nm.size<=maxLen) (h:FE V K e):
 Calls prog 55 #[.pointer (some ⟨K,0,none⟩),.agg (C8 c),i64 kind,i64 i] V λe' w'=>tV V K (gJ e nm prev) e' w':=by
 try unfold C8
 have Nq:=h.lt;obtain ⟨hi,zA,FB⟩:=h2;have Dn:prev.length=i:=by rw [<-FB,List.length_take];omega
 unfold gJ;obtain ⟨e1,EF⟩: ∃e1,nd e (dU nm) 9=e1:=⟨_,rfl⟩;rw [EF];have U3:=ah (λU (hU:FE U K e)=>cZ U K e (dU nm) kind i 0 9 hU);rw [EF]at U3;have U4:=ah (λU=>Lp U nm hsz);have HH:=ah h;have HKl:=ah Nq;have HPV:=ah FB;have v_:=ah Dn;have FC:=ah zA
 have hl3:yu.length<=1000000:=h3;obtain ⟨W,hW,x0,Z0,A0⟩:=aV V 32 c.cells;have Tn:Hid (V.alloc (.cells (C8 c) 32)=W):=hW.symm;have Lv:=ah (zN w0 W c kind yu hn hk (hV.trans x0) hc h3);obtain ⟨B,hB⟩: ∃B,B=V.heap.size:=⟨_,rfl⟩;rw [<-hB]at A0;have tK:=ah x0;have HB:=ah hB;have k0:=ay.at A0;clear hW x0 Z0 h FB Dn zA EF hn hc hV hsz A0 h3 hK Nq hk;go_enter func55,ntmps55
 go_upto_region 1 with fail
 rw [Tn.o,<-hB];clear hB;go_wp2_with fail
 refine Lv.o.mono ?_;rintro e2 W2 ⟨a,cap,rfl,hS,x2,lJ⟩;obtain ⟨b,o,rfl,cnm⟩:=hS.cell i hi;rw [FC.o]at cnm
 have Og:b≠K:=by
  have:=lJ _ rfl;simp only at this;have h1:=tK.o.size;have h2:=HKl.o
  omega
 have hle:=hS.le;have dS:=hS.cap
 rw [List.length_map]at hle;have iM:(0:Int)<=(i:Int):=ae;have iK:(i:Int)<(yu.length:Int):=ae;have HS:=ah hS;have eR:=ah (tK.o.trans x2)
 clear k0 hS x2 lJ Lv;go_wp2_with fail
 refine (U4.o _).mono ?_;rintro e3 W3 ⟨rfl,rfl⟩;go_wp2_with fail
 refine (U3.o _ (HH.o.ext eR.o)).mono ?_;rintro e4 W4 ⟨rfl,FD,gG⟩;have PO:=ah FD;have pV:=ah ((eR.o.but K).trans gG)
 have Lx:=ah (HS.o.but gG (λp e=>by cases e;exact Og));clear cnm FD gG HS eR;go_wp2
 go_loopw [9] (λii wr=> ∃k:Nat,k<=i/\FE wr K (nd e1 ((prev.take k).all λp=>Ck p nm) 10)/\aB K V wr/\lh wr (some ⟨b,o,none⟩) cap yu/\ii= .int .i64 k) (λii _=>i-(intOf ii).toNat)
 case atStart=>exact ⟨0,aZ,by simpa [bI]using PO.o,pV.o,Lx.o,rfl⟩
 case round=>
  obtain ⟨k,hk,hF,hX,hS,rfl⟩:=hrel;clear PO pV Lx;by_cases hlt:k<i
  .obtain ⟨b',o',e',g0⟩:=hS.cell k ae
   cases e'
   obtain ⟨b',o',e',g1⟩:=hS.cell i hi;cases e'
   rw [FC.o]at g1;have hkp:k<prev.length:=by rw [v_.o];exact hlt
   have hpk:yu[k]'ae=prev[k]:=by
    have h5:=HPV.o;subst h5;rw [List.getElem_take]
   rw [hpk]at g0;have QN:=ah (Lu prev (λp=>Ck p nm) k hkp);generalize prev[k]=p at*;generalize (prev.take k).all (λp=>Ck p nm)=q at*;have FH:=ah (λU (hU:FE U K (nd e1 q 10))=>cZ U K (nd e1 q 10) (Ck p nm) kind i 0 10 hU);have HF:=ah hF;have uI:=ah hX;have I5:=ah hS
   have Tl:(0:Int)<=(k:Int):=ae;have Tm:(k:Int)<(yu.length:Int):=ae;clear hF hX hS hpk;have g0:wr.drew.cell? ⟨b,o+k,none⟩=some (.string p):=g0;have g1:wr.drew.cell? ⟨b,o+i,none⟩=some (.string nm):=g1;unfold Ck at FH;go_wp2_with fail
   refine aO (λw'=>w'.cell? ⟨b,o+k,none⟩=some (.string p)/\w'.cell? ⟨b,o+i,none⟩=some (.string nm)) (λw'=>True) (λi=>false) ax (⟨g0,g1⟩) (trivial) (λaD ai=> ?_);refine aJ 0 aD ai ?_;refine aJ 1 aD ai ?_;refine aJ 2 aD ai ?_ (v:= .int .i64 (k:Int));refine aJ 3 aD ai ?_;refine aJ 4 aD ai ?_ (v:= .string p);refine aJ 5 aD ai ?_;refine aJ 6 aD ai ?_ (v:= .int .i64 (i:Int));refine aJ 7 aD ai ?_;refine aJ 8 aD ai ?_ (v:= .string nm);refine aJ 9 aD ai ?_ (v:= .bool (!(p.toList==nm.toList)));refine aJ 10 aD ai ?_ (v:=i64 kind);refine aJ 11 aD ai ?_ (v:= .int .i64 (i:Int));refine eI 12 rfl (λKc hK=> ?_);go_simp;refine (FH.o wr.drew (HF.o.ext ar.drew)).mono ?_;rintro e5 W5 ⟨rfl,Lz,eP⟩;refine hK.o _ _ (⟨bU (aC (Ext.refl wr).drew g0) eP Og,bU (aC (Ext.refl wr).drew g1) eP Og⟩) (trivial) (λaD ai=> ?_);clear hK Kc;try simp only [sS]
   refine aI ax ?_ _;clear aD ai
   have HF5:Hid (FE W5 K (nd e1 (q&&Ck p nm) 10)):=by
    show FE _ _ _;rw [<-nZ _ _ _ _ aq];exact Lz
   have lW:Hid (aB K V W5):=uI.o.trans (((Ext.refl wr).drew.but K).trans eP);have YM:Hid (lh W5 (some ⟨b,o,none⟩) cap yu):=lh.but (ct.ext I5.o (Ext.refl wr).drew) eP (λp e=>by cases e;exact Og);clear Lz eP g0 g1;go_wp2
   exact ⟨⟨k+1,ae,by rw [QN.o];exact HF5.o,lW.o,YM.o,bf⟩,a_⟩
  .obtain rfl:k=i:=ae
   rw [List.take_of_length_le (by rw [v_.o];exact bY)]at hF;go_wp2
   exact bodyPost_end (v:= .tuple #[]) ax rfl ⟨rfl,hF,hX⟩
def ln (kind:Int):Int:=if kind=2 then 64 else if kind=3 then 16 else if kind=4 then 8 else if kind=5 then 8 else 64
theorem LA (V:World) (kind:Int) (h:2<=kind/\kind<=6):
 Calls prog 101 #[i64 kind] V λe w'=>e= .returned (i64 (ln kind))/\Ext V w':=by
 rcases (show kind=2\/kind=3\/kind=4\/kind=5\/kind=6 by omega)with e|e|e|e|e<;>subst e
 all_goals
  go_enter func101,ntmps101
  go_wp2
  go_ret;exact ⟨rfl,ar.alloc _⟩
