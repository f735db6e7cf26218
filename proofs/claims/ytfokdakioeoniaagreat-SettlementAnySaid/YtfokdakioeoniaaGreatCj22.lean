/- Texts of the proof. -/
import Derived.Test.YtfokdakioeoniaaGreatCj20
set_option linter.all false
set_option maxHeartbeats 1000000
set_option maxRecDepth 100000
namespace Go.Proofs.YtfokdakioeoniaaGreat
open Go.Proofs.Tryz
open Go.RowKit
theorem yM (w:World) (a:Option Addr) (c:Nat) (l:List Int) (v:Int) (h:bV w a c l):
 Calls prog 124 #[.slice a l.length c,i64 v] w λe w'=>e= .returned (.bool (hasB l v))/\w'=w:=by
 have hle:=h.le;have eI:=h.cap
 have HL:=af h;clear h;go_enter func124,ntmps124
 go_wp2
 go_loopw [5] (λii wr=> ∃i:Nat,i<=l.length/\wr=w/\(∀j,j<i->kE l j≠v)/\ii= .int .i64 i) (λii _=>l.length-(intOf ii).toNat)
 case atStart=>exact ⟨0,bm,rfl,λj hj=>absurd hj (Nat.not_lt_zero _),rfl⟩
 case round=>
  obtain ⟨i,hi,hw,hA,rfl⟩:=hrel;subst hw;by_cases hlt:i<l.length
  .obtain ⟨b,o,rfl,c0⟩:=HL.o.cell i hlt
   rw [<-gh hlt]at c0;have HA:=af hA;obtain ⟨x,hx⟩: ∃x,x=kE l i:=⟨_,rfl⟩;rw [<-hx]at c0;have HX:=af hx;have mn:(0:Int)<=(i:Int):=ae;have mq:(i:Int)<(l.length:Int):=ae;clear hA hx;by_cases uf:x=v
   .have t:(x==v)=true:=by rw [uf];simp
    have HH:=af ((q9 l v).2 ⟨i,hlt,by rw [<-HX.o];exact uf⟩);clear uf;go_wp2
    go_ret;exact ⟨by rw [HH.o];rfl,rfl⟩
   .have t:(x==v)=false:=by simpa using uf
    have hn: ∀j,j<i+1->kE l j≠v:=λj hj=>by
     by_cases qF:j=i
     .subst qF;rw [<-HX.o];exact uf
     .exact HA.o j ae
    have HN:=af hn;clear hn uf;go_wp2
    exact ⟨⟨i+1,ae,by first|trivial|rfl,HN.o,bq⟩,bz⟩
  .have HF:=af (Cm l v (λj hj=>hA j ae))
   clear hA;go_wp2
   go_ret;exact ⟨by rw [HF.o];rfl,rfl⟩
def fT (s:ByteArray) (i:Nat):Nat:=if h:i<s.size then s[i].toNat else 0
theorem vU (s:ByteArray) (i:Nat) (h:i<s.size):fT s i=s[i].toNat:=dif_pos h
def nU (x:Nat):Bool:=decide (97<=x)&&decide (x<=122)
def okB (x:Nat):Bool:=nU x||(decide (48<=x)&&decide (x<=57))||decide (x=95)
def eN (s:ByteArray):Bool:=decide (1<=s.size)&&decide (s.size<=16)&& !(s.toList== [99,111,114,114,101,99,116,105,118,101])&&nU (fT s 0)&&(List.range s.size).all λi=>okB (fT s i)
theorem Co {x:Nat} (h:(x<97\/122<x)/\(x<48\/57<x)/\x≠95):okB x=false:=by
 unfold okB nU;simp only [Bool.or_eq_false_iff,Bool.and_eq_false_iff,decide_eq_false_iff_not];omega
theorem FV {x:Nat} (h: ¬((x<97\/122<x)/\(x<48\/57<x)/\x≠95)):okB x=true:=by
 unfold okB nU;simp only [Bool.or_eq_true,Bool.and_eq_true,decide_eq_true_eq];omega
theorem Cp {s:ByteArray} {i:Nat} (hi:i<s.size) (h:okB (fT s i)=false):eN s=false:=by
 unfold eN
 have:(List.range s.size).all (λi=>okB (fT s i))=false:=by
  rw [List.all_eq_false];exact ⟨i,List.mem_range.2 hi,by rw [h];decide⟩
 rw [this,Bool.and_false]
theorem zT {s:ByteArray} (h1:1<=s.size) (h2:s.size<=16) (h3:(s.toList== [99,111,114,114,101,99,116,105,118,101])=false) (h4:nU (fT s 0)=true) (h5: ∀j,j<s.size->okB (fT s j)=true):eN s=true:=by
 unfold eN;rw [h3,h4,List.all_eq_true.2 (λj hj=>h5 j (List.mem_range.1 hj))];simp [h1,h2]
theorem Rc (w:World) (s:ByteArray) (hs:s.size<=maxLen):
 Calls prog 242 #[.string s] w λe w'=>e= .returned (.bool (eN s))/\w'=w:=by
 unfold maxLen at hs;by_cases h1:1<=s.size
 rotate_left
 .have d1:decide ((s.size:Int)<1)=true:=by simp;omega
  have hn:eN s=false:=by unfold eN;simp [h1]
  rw [hn];clear hn;go_enter func242,ntmps242
  go_wp2
  go_ret;exact ⟨rfl,rfl⟩
 have d1:decide ((s.size:Int)<1)=false:=by simp;omega
 by_cases h2:s.size<=16
 rotate_left
 .have d2:decide ((16:Int)<(s.size:Int))=true:=by simp;omega
  have hn:eN s=false:=by unfold eN;simp [h2]
  rw [hn];clear hn;go_enter func242,ntmps242
  go_wp2
  go_ret;exact ⟨rfl,rfl⟩
 have d2:decide ((16:Int)<(s.size:Int))=false:=by simp;omega
 cases d3:(s.toList== [99,111,114,114,101,99,116,105,118,101])with
 |true=>
  have hn:eN s=false:=by unfold eN;rw [d3];simp
  rw [hn];clear hn;go_enter func242,ntmps242
  go_wp2
  go_ret;exact ⟨rfl,rfl⟩
 |false=>
  have z0:0<s.size:=ae;have e0:=vU s 0 z0;by_cases h4:nU (fT s 0)=true
  rotate_left
  .have hn:eN s=false:=by unfold eN;simp [h4]
   rw [hn];rw [e0]at h4;unfold nU at h4
   have hq:decide (((s[0].toNat:Nat):Int)<97)=true\/(decide (((s[0].toNat:Nat):Int)<97)=false/\decide ((122:Int)<((s[0].toNat:Nat):Int))=true):=by
    simp at h4⊢;omega
   clear hn h4 e0;rcases hq with q1|⟨q1,q2⟩
   .go_enter func242,ntmps242
    go_wp2
    go_ret;exact ⟨rfl,rfl⟩
   .go_enter func242,ntmps242
    go_wp2
    go_ret;exact ⟨rfl,rfl⟩
  have abY:=af h4;rw [e0]at h4;unfold nU at h4;have q1:decide (((s[0].toNat:Nat):Int)<97)=false:=by simp at h4⊢;omega
  have q2:decide ((122:Int)<((s[0].toNat:Nat):Int))=false:=by simp at h4⊢;omega
  clear h4 e0;have XU:=af d3;go_enter func242,ntmps242
  go_wp2
  go_loopw [29] (λii wr=> ∃i:Nat,i<=s.size/\wr=w/\(∀j,j<i->okB (fT s j)=true)/\ii= .int .i64 i) (λii _=>s.size-(intOf ii).toNat)
  case atStart=>exact ⟨0,bm,rfl,λj hj=>absurd hj (Nat.not_lt_zero _),rfl⟩
  case round=>
   obtain ⟨i,hi,rfl,hA,rfl⟩:=hrel;by_cases hlt:i<s.size
   .have ei:=vU s i hlt
    have HA:=af hA;have mn:(0:Int)<=(i:Int):=ae;have mq:(i:Int)<(s.size:Int):=ae;obtain ⟨x,hx⟩: ∃x:Nat,s[i].toNat=x:=⟨_,rfl⟩;rw [hx]at ei;have S9:=af ei;clear hA ei q1 q2 d1 d2 d3
    have hq:(decide ((x:Int)<97)=false/\decide ((122:Int)<(x:Int))=false)\/(decide ((x:Int)<97)=true/\decide ((x:Int)<48)=true/\((x:Int) !=95)=true)\/(decide ((x:Int)<97)=true/\decide ((x:Int)<48)=false/\decide ((57:Int)<(x:Int))=false)\/(decide ((x:Int)<97)=true/\decide ((x:Int)<48)=false/\decide ((57:Int)<(x:Int))=true/\((x:Int) !=95)=true)\/(decide ((x:Int)<97)=true/\decide ((x:Int)<48)=false/\decide ((57:Int)<(x:Int))=true/\((x:Int) !=95)=false)\/(decide ((x:Int)<97)=false/\decide ((122:Int)<(x:Int))=true/\decide ((x:Int)<48)=false/\decide ((57:Int)<(x:Int))=true/\((x:Int) !=95)=true):=by
     simp only [decide_eq_true_eq,decide_eq_false_iff_not,bne_iff_ne,ne_eq,bne_eq_false_iff_eq];omega
    have yq:okB (fT s i)=okB x:=by rw [S9.o]
    have uG:okB x=true-> ∀j,j<i+1->okB (fT s j)=true:=λht j hj=>by
     by_cases qF:j=i
     .subst qF;rw [S9.o];exact ht
     .exact HA.o j ae
    have jc:okB x=false->eN s=false:=λhf=>Cp hlt (by rw [S9.o];exact hf);have gf:= @Co x;have gt:= @FV x;rcases hq with⟨q1,q2⟩|⟨q1,q3,q5⟩|⟨q1,q3,q4⟩|⟨q1,q3,q4,q5⟩|⟨q1,q3,q4,q5⟩|⟨q1,q2,q3,q4,q5⟩
    .have HN:=af (uG (gt (by simp only [decide_eq_true_eq,decide_eq_false_iff_not,bne_iff_ne,ne_eq,bne_eq_false_iff_eq]at q1 q2;omega)))
     clear uG jc gf gt yq;go_wp2
     exact ⟨⟨i+1,ae,by first|trivial|rfl,HN.o,bq⟩,bz⟩
    .have HN:=af (jc (gf (by simp only [decide_eq_true_eq,decide_eq_false_iff_not,bne_iff_ne,ne_eq,bne_eq_false_iff_eq]at q1 q3 q5;omega)))
     clear uG jc gf gt yq;go_wp2
     go_ret;exact ⟨by rw [HN.o];rfl,rfl⟩
    .have HN:=af (uG (gt (by simp only [decide_eq_true_eq,decide_eq_false_iff_not,bne_iff_ne,ne_eq,bne_eq_false_iff_eq]at q1 q3 q4;omega)))
     clear uG jc gf gt yq;go_wp2
     exact ⟨⟨i+1,ae,by first|trivial|rfl,HN.o,bq⟩,bz⟩
    .have HN:=af (jc (gf (by simp only [decide_eq_true_eq,decide_eq_false_iff_not,bne_iff_ne,ne_eq,bne_eq_false_iff_eq]at q1 q3 q4 q5;omega)))
     clear uG jc gf gt yq;go_wp2
     go_ret;exact ⟨by rw [HN.o];rfl,rfl⟩
    .have HN:=af (uG (gt (by simp only [decide_eq_true_eq,decide_eq_false_iff_not,bne_iff_ne,ne_eq,bne_eq_false_iff_eq]at q1 q3 q4 q5;omega)))
     clear uG jc gf gt yq;go_wp2
     exact ⟨⟨i+1,ae,by first|trivial|rfl,HN.o,bq⟩,bz⟩
    .have HN:=af (jc (gf (by simp only [decide_eq_true_eq,decide_eq_false_iff_not,bne_iff_ne,ne_eq,bne_eq_false_iff_eq]at q1 q2 q3 q4 q5;omega)))
     clear uG jc gf gt yq;go_wp2
     go_ret;exact ⟨by rw [HN.o];rfl,rfl⟩
   .have hn:=zT h1 h2 XU.o abY.o (λj hj=>hA j ae)
    clear hA;go_wp2
    go_ret;exact ⟨by rw [hn];rfl,rfl⟩
theorem L0 {x:Nat} (h:97<=x/\x<=122):nU x=true:=by unfold nU;simp [h.1,h.2]
theorem IU {x:Nat} (h: ¬(97<=x/\x<=122)):nU x=false:=by
 unfold nU;simp only [Bool.and_eq_false_iff,decide_eq_false_iff_not];omega
theorem L1 {s:ByteArray} (h:nU (fT s 0)=false):eN s=false:=by unfold eN;simp [h]
theorem Oy (w:World) (s:ByteArray) (hs:s.size<=maxLen):
 Calls prog 205 #[.string s] w λe w'=>e= .returned (.bool (eN s))/\w'=w:=by
 unfold maxLen at hs;by_cases h1:1<=s.size
 rotate_left
 .have d1:decide ((s.size:Int)<1)=true:=by simp;omega
  have hn:eN s=false:=by unfold eN;simp [h1]
  rw [hn];clear hn;go_enter func205,ntmps205
  go_wp2
  go_ret;exact ⟨rfl,rfl⟩
 have d1:decide ((s.size:Int)<1)=false:=by simp;omega
 by_cases h2:s.size<=16
 rotate_left
 .have d2:decide ((16:Int)<(s.size:Int))=true:=by simp;omega
  have hn:eN s=false:=by unfold eN;simp [h2]
  rw [hn];clear hn;go_enter func205,ntmps205
  go_wp2
  go_ret;exact ⟨rfl,rfl⟩
 have d2:decide ((16:Int)<(s.size:Int))=false:=by simp;omega
 cases d3:(s.toList== [99,111,114,114,101,99,116,105,118,101])with
 |true=>
  have hn:eN s=false:=by unfold eN;rw [d3];simp
  rw [hn];clear hn;go_enter func205,ntmps205
  go_wp2
  go_ret;exact ⟨rfl,rfl⟩
 |false=>
  have XU:=af d3;go_enter func205,ntmps205
  go_wp2
  go_loopw [3] (λii wr=> ∃i:Nat,i<=s.size/\wr=w/\(∀j,j<i->okB (fT s j)=true)/\(0<i->nU (fT s 0)=true)/\ii= .int .i64 i) (λii _=>s.size-(intOf ii).toNat)
  case atStart=>exact ⟨0,bm,rfl,λj hj=>absurd hj (Nat.not_lt_zero _),λh=>absurd h (Nat.lt_irrefl _),rfl⟩
  case round=>
   obtain ⟨i,hi,rfl,hA,hL,rfl⟩:=hrel;by_cases hlt:i<s.size
   .have ei:=vU s i hlt
    have HA:=af hA;have HL:=af hL
    have mn:(0:Int)<=(i:Int):=ae;have mq:(i:Int)<(s.size:Int):=ae;obtain ⟨x,hx⟩: ∃x:Nat,s[i].toNat=x:=⟨_,rfl⟩;rw [hx]at ei;have S9:=af ei;clear hA hL ei d1 d2 d3
    have uG:okB x=true->(i=0->nU x=true)->(∀j,j<i+1->okB (fT s j)=true)/\(0<i+1->nU (fT s 0)=true):=λht hl=>⟨λj hj=>by
     by_cases qF:j=i
     .subst qF;rw [S9.o];exact ht
     .exact HA.o j ae,λ_=>by
     by_cases h0:i=0
     .have:=hl h0;subst h0;rw [S9.o];exact this
     .exact HL.o ae⟩
    have jc:okB x=false->eN s=false:=λhf=>Cp hlt (by rw [S9.o];exact hf);have oW:i=0->nU x=false->eN s=false:=λh0 hf=>L1 (by subst h0;rw [S9.o];exact hf);have gf:= @Co x;have gt:= @FV x;have lf:= @IU x;have lt:= @L0 x;cases q1:decide ((97:Int)<=(x:Int))with
    |false=>
     cases q3:((i:Int)==0)with
     |false=>
      cases q4:((x:Int) !=95)with
      |false=>
       have HN:Hid ((∀j,j<i+1->okB (fT s j)=true)/\(0<i+1->nU (fT s 0)=true)):=uG (gt (by have p1:=q1;have p3:=q3;have p4:=q4;simp only [decide_eq_true_eq,decide_eq_false_iff_not,bne_iff_ne,ne_eq,bne_eq_false_iff_eq,beq_iff_eq,beq_eq_false_iff_ne]at p1 p3 p4;omega)) (λh0=>by first|(exact lt (by have p1:=q1;have p3:=q3;have p4:=q4;simp only [decide_eq_true_eq,decide_eq_false_iff_not,bne_iff_ne,ne_eq,bne_eq_false_iff_eq,beq_iff_eq,beq_eq_false_iff_ne]at p1 p3 p4;omega))|(exfalso;have p1:=q1;have p3:=q3;have p4:=q4;simp only [decide_eq_true_eq,decide_eq_false_iff_not,bne_iff_ne,ne_eq,bne_eq_false_iff_eq,beq_iff_eq,beq_eq_false_iff_ne]at p1 p3 p4;omega));clear uG jc oW gf gt lf lt;go_wp2
       exact ⟨⟨i+1,ae,by first|trivial|rfl,HN.o.1,HN.o.2,bq⟩,bz⟩
      |true=>
       cases q5:decide ((x:Int)<48)with
       |false=>
        cases q6:decide ((57:Int)<(x:Int))with
        |false=>
         have HN:Hid ((∀j,j<i+1->okB (fT s j)=true)/\(0<i+1->nU (fT s 0)=true)):=uG (gt (by have p1:=q1;have p3:=q3;have p4:=q4;have p5:=q5;have p6:=q6;simp only [decide_eq_true_eq,decide_eq_false_iff_not,bne_iff_ne,ne_eq,bne_eq_false_iff_eq,beq_iff_eq,beq_eq_false_iff_ne]at p1 p3 p4 p5 p6;omega)) (λh0=>by first|(exact lt (by have p1:=q1;have p3:=q3;have p4:=q4;have p5:=q5;have p6:=q6;simp only [decide_eq_true_eq,decide_eq_false_iff_not,bne_iff_ne,ne_eq,bne_eq_false_iff_eq,beq_iff_eq,beq_eq_false_iff_ne]at p1 p3 p4 p5 p6;omega))|(exfalso;have p1:=q1;have p3:=q3;have p4:=q4;have p5:=q5;have p6:=q6;simp only [decide_eq_true_eq,decide_eq_false_iff_not,bne_iff_ne,ne_eq,bne_eq_false_iff_eq,beq_iff_eq,beq_eq_false_iff_ne]at p1 p3 p4 p5 p6;omega));clear uG jc oW gf gt lf lt;go_wp2
         exact ⟨⟨i+1,ae,by first|trivial|rfl,HN.o.1,HN.o.2,bq⟩,bz⟩
        |true=>
         have HN:Hid (eN s=false):=jc (gf (by have p1:=q1;have p3:=q3;have p4:=q4;have p5:=q5;have p6:=q6;simp only [decide_eq_true_eq,decide_eq_false_iff_not,bne_iff_ne,ne_eq,bne_eq_false_iff_eq,beq_iff_eq,beq_eq_false_iff_ne]at p1 p3 p4 p5 p6;omega));clear uG jc oW gf gt lf lt;go_wp2
         go_ret;exact ⟨by rw [HN.o];rfl,rfl⟩
       |true=>
        have HN:Hid (eN s=false):=jc (gf (by have p1:=q1;have p3:=q3;have p4:=q4;have p5:=q5;simp only [decide_eq_true_eq,decide_eq_false_iff_not,bne_iff_ne,ne_eq,bne_eq_false_iff_eq,beq_iff_eq,beq_eq_false_iff_ne]at p1 p3 p4 p5;omega));clear uG jc oW gf gt lf lt;go_wp2
        go_ret;exact ⟨by rw [HN.o];rfl,rfl⟩
     |true=>
      have HN:Hid (eN s=false):=oW (by have p1:=q1;have p3:=q3;simp only [decide_eq_true_eq,decide_eq_false_iff_not,bne_iff_ne,ne_eq,bne_eq_false_iff_eq,beq_iff_eq,beq_eq_false_iff_ne]at p1 p3;omega) (lf (by have p1:=q1;have p3:=q3;simp only [decide_eq_true_eq,decide_eq_false_iff_not,bne_iff_ne,ne_eq,bne_eq_false_iff_eq,beq_iff_eq,beq_eq_false_iff_ne]at p1 p3;omega));clear uG jc oW gf gt lf lt;go_wp2
      go_ret;exact ⟨by rw [HN.o];rfl,rfl⟩
    |true=>
     cases q2:decide ((x:Int)<=122)with
     |false=>
      cases q3:((i:Int)==0)with
      |false=>
       cases q4:((x:Int) !=95)with
       |false=>
        have HN:Hid ((∀j,j<i+1->okB (fT s j)=true)/\(0<i+1->nU (fT s 0)=true)):=uG (gt (by have p1:=q1;have p2:=q2;have p3:=q3;have p4:=q4;simp only [decide_eq_true_eq,decide_eq_false_iff_not,bne_iff_ne,ne_eq,bne_eq_false_iff_eq,beq_iff_eq,beq_eq_false_iff_ne]at p1 p2 p3 p4;omega)) (λh0=>by first|(exact lt (by have p1:=q1;have p2:=q2;have p3:=q3;have p4:=q4;simp only [decide_eq_true_eq,decide_eq_false_iff_not,bne_iff_ne,ne_eq,bne_eq_false_iff_eq,beq_iff_eq,beq_eq_false_iff_ne]at p1 p2 p3 p4;omega))|(exfalso;have p1:=q1;have p2:=q2;have p3:=q3;have p4:=q4;simp only [decide_eq_true_eq,decide_eq_false_iff_not,bne_iff_ne,ne_eq,bne_eq_false_iff_eq,beq_iff_eq,beq_eq_false_iff_ne]at p1 p2 p3 p4;omega));clear uG jc oW gf gt lf lt;go_wp2
        exact ⟨⟨i+1,ae,by first|trivial|rfl,HN.o.1,HN.o.2,bq⟩,bz⟩
       |true=>
        cases q5:decide ((x:Int)<48)with
        |false=>
         cases q6:decide ((57:Int)<(x:Int))with
         |false=>
          have HN:Hid ((∀j,j<i+1->okB (fT s j)=true)/\(0<i+1->nU (fT s 0)=true)):=uG (gt (by have p1:=q1;have p2:=q2;have p3:=q3;have p4:=q4;have p5:=q5;have p6:=q6;simp only [decide_eq_true_eq,decide_eq_false_iff_not,bne_iff_ne,ne_eq,bne_eq_false_iff_eq,beq_iff_eq,beq_eq_false_iff_ne]at p1 p2 p3 p4 p5 p6;omega)) (λh0=>by first|(exact lt (by have p1:=q1;have p2:=q2;have p3:=q3;have p4:=q4;have p5:=q5;have p6:=q6;simp only [decide_eq_true_eq,decide_eq_false_iff_not,bne_iff_ne,ne_eq,bne_eq_false_iff_eq,beq_iff_eq,beq_eq_false_iff_ne]at p1 p2 p3 p4 p5 p6;omega))|(exfalso;have p1:=q1;have p2:=q2;have p3:=q3;have p4:=q4;have p5:=q5;have p6:=q6;simp only [decide_eq_true_eq,decide_eq_false_iff_not,bne_iff_ne,ne_eq,bne_eq_false_iff_eq,beq_iff_eq,beq_eq_false_iff_ne]at p1 p2 p3 p4 p5 p6;omega));clear uG jc oW gf gt lf lt;go_wp2
          exact ⟨⟨i+1,ae,by first|trivial|rfl,HN.o.1,HN.o.2,bq⟩,bz⟩
         |true=>
          have HN:Hid (eN s=false):=jc (gf (by have p1:=q1;have p2:=q2;have p3:=q3;have p4:=q4;have p5:=q5;have p6:=q6;simp only [decide_eq_true_eq,decide_eq_false_iff_not,bne_iff_ne,ne_eq,bne_eq_false_iff_eq,beq_iff_eq,beq_eq_false_iff_ne]at p1 p2 p3 p4 p5 p6;omega));clear uG jc oW gf gt lf lt;go_wp2
          go_ret;exact ⟨by rw [HN.o];rfl,rfl⟩
        |true=>
         have HN:Hid (eN s=false):=jc (gf (by have p1:=q1;have p2:=q2;have p3:=q3;have p4:=q4;have p5:=q5;simp only [decide_eq_true_eq,decide_eq_false_iff_not,bne_iff_ne,ne_eq,bne_eq_false_iff_eq,beq_iff_eq,beq_eq_false_iff_ne]at p1 p2 p3 p4 p5;omega));clear uG jc oW gf gt lf lt;go_wp2
         go_ret;exact ⟨by rw [HN.o];rfl,rfl⟩
      |true=>
       have HN:Hid (eN s=false):=oW (by have p1:=q1;have p2:=q2;have p3:=q3;simp only [decide_eq_true_eq,decide_eq_false_iff_not,bne_iff_ne,ne_eq,bne_eq_false_iff_eq,beq_iff_eq,beq_eq_false_iff_ne]at p1 p2 p3;omega) (lf (by have p1:=q1;have p2:=q2;have p3:=q3;simp only [decide_eq_true_eq,decide_eq_false_iff_not,bne_iff_ne,ne_eq,bne_eq_false_iff_eq,beq_iff_eq,beq_eq_false_iff_ne]at p1 p2 p3;omega));clear uG jc oW gf gt lf lt;go_wp2
       go_ret;exact ⟨by rw [HN.o];rfl,rfl⟩
     |true=>
      have HN:Hid ((∀j,j<i+1->okB (fT s j)=true)/\(0<i+1->nU (fT s 0)=true)):=uG (gt (by have p1:=q1;have p2:=q2;simp only [decide_eq_true_eq,decide_eq_false_iff_not,bne_iff_ne,ne_eq,bne_eq_false_iff_eq,beq_iff_eq,beq_eq_false_iff_ne]at p1 p2;omega)) (λh0=>by first|(exact lt (by have p1:=q1;have p2:=q2;simp only [decide_eq_true_eq,decide_eq_false_iff_not,bne_iff_ne,ne_eq,bne_eq_false_iff_eq,beq_iff_eq,beq_eq_false_iff_ne]at p1 p2;omega))|(exfalso;have p1:=q1;have p2:=q2;simp only [decide_eq_true_eq,decide_eq_false_iff_not,bne_iff_ne,ne_eq,bne_eq_false_iff_eq,beq_iff_eq,beq_eq_false_iff_ne]at p1 p2;omega));clear uG jc oW gf gt lf lt;go_wp2
      exact ⟨⟨i+1,ae,by first|trivial|rfl,HN.o.1,HN.o.2,bq⟩,bz⟩
   .have hn:=zT h1 h2 XU.o (hL ae) (λj hj=>hA j ae)
    clear hA hL;go_wp2
    go_ret;exact ⟨by rw [hn];rfl,rfl⟩
def Nt (p q:ByteArray):Bool:= !(p.toList==q.toList)
def St.oX (s:St) (nm:ByteArray) (prev:List ByteArray):St:=prev.foldl (λs p=>s.need (Nt p nm) 0 10) s
def St.name (s:St) (nm:ByteArray) (prev:List ByteArray):St:=(s.need (eN nm) 0 9).oX nm prev
theorem St.Oz (s:St) (ok:Bool) (f e:Int):(s.need ok f e).idx=s.idx:=by unfold St.need;split<;>rfl
theorem St.rf (s:St) (nm:ByteArray) (prev:List ByteArray) (h:s.err≠0):s.oX nm prev=s:=by
 unfold St.oX;induction prev with
 |nil=>rfl
 |cons x l ih=>rw [List.foldl_cons,St.jy s _ _ _ h,ih]
theorem St.L3 (s:St) (nm:ByteArray) (prev:List ByteArray) (i:Nat) (h:i<prev.length):s.oX nm (prev.take (i+1))=(s.oX nm (prev.take i)).need (Nt prev[i] nm) 0 10:=by
 unfold St.oX;rw [List.take_succ_eq_append_getElem h,List.foldl_append];rfl
theorem St.L4 (s:St) (nm:ByteArray) (prev:List ByteArray) (i:Nat) (h:(s.oX nm (prev.take i)).err≠0):s.oX nm (prev.take i)=s.oX nm prev:=by
 have h1:s.oX nm prev=(s.oX nm (prev.take i)).oX nm (prev.drop i):=by
  unfold St.oX;rw [<-List.foldl_append,List.take_append_drop]
 rw [h1,St.rf _ _ _ h]
theorem St.Cq {s:St} {ok:Bool} {f e:Int} (h:(s.need ok f e).err=0):s.err=0:=by
 by_cases h0:s.err=0
 .exact h0
 .rw [St.jy s ok f e h0]at h;exact h
theorem St.L5 {s:St} {nm:ByteArray} {prev:List ByteArray} (h:(s.oX nm prev).err=0):s.err=0:=by
 by_cases h0:s.err=0
 .exact h0
 .rw [St.rf s nm prev h0]at h;exact h
theorem vV (V:World) (K:Nat) (c:aq) (s:St) (nm:ByteArray) (LK:nm.size<=maxLen) (prev:List ByteArray) (F:Nat) (B:Nat) (IV:s.err=0->s.idx=(prev.length:Int)) (hpl:prev.length<=1000000)
 (hen: ∀args w,(callFunc F args).run prog w= .ok (.enter F args) w)
 (hF: ∀V' s' (i:Nat) (hi:i<prev.length),aH K V V'->kg V' K c s'->Calls prog F #[i64 i,.pointer (some ⟨B,0,none⟩)] V' λe w'=>e= .returned (.string prev[i])/\w'=V') (h:kg V K c s):
 Calls prog 166 #[.pointer (some ⟨K,0,none⟩),.string nm,.func (.func F) #[] #[.pointer (some ⟨B,0,none⟩)]] V λe' w'=>oU V K c (s.name nm prev) e' w':=by
 have hC:=gj V K c s (eN nm) 0 9 h;unfold St.name;have UX:=St.Oz s (eN nm) 0 9;have hz:= @St.Cq s (eN nm) 0 9;have hne:=St.jy s (eN nm) 0 9;obtain ⟨s1,hs1⟩: ∃s1,s.need (eN nm) 0 9=s1:=⟨_,rfl⟩;rw [hs1]at hC UX hz hne⊢;have S_:s1.err=0->s1.idx=(prev.length:Int):=λh0=>by rw [UX];exact IV (hz h0)
 have HC:=af hC;have HF:=af hF;have HI:=af S_;have HN:=af (Rc V nm LK)
 clear hs1 hC hF S_ IV UX hz hne h;go_enter func166,ntmps166
 go_wp2_with fail
 refine HN.o.mono ?_;rintro e w1 ⟨rfl,kR⟩;subst kR;go_wp2_with fail
 refine HC.o.mono ?_;rintro e w1 ⟨rfl,UW,hx1⟩;obtain ⟨-,c9,-⟩:=q8 UW;have H1:=af UW;have X1:=af hx1
 clear UW hx1 HC HN;go_wp2_with fail
 clear c9;go_loopw [16] (λii wr=> ∃i:Nat,kg wr K c (s1.oX nm (prev.take i))/\aH K w1 wr/\(s1.err=0->i<=prev.length)/\(s1.err≠0->i=0)/\ii= .int .i64 i) (λii _=>(s1.idx-intOf ii).toNat)
 case atStart=>exact ⟨0,H1.o,aH.refl _ _,λ_=>bm,λ_=>rfl,rfl⟩
 case round=>
  obtain ⟨i,hk,hx,hle,hz,rfl⟩:=hrel;clear H1;by_cases hlt:(i:Int)<s1.idx
  .have t0:decide ((i:Int)<s1.idx)=true:=by simpa using hlt
   obtain ⟨-,-,-,c11,-⟩:=q8 hk;have hdz:= @St.L5 s1 nm (prev.take i);have hst:=St.L4 s1 nm prev i;have UY:=St.L3 s1 nm prev i;generalize s1.oX nm (prev.take i)=s2 at*;by_cases h0:s2.err=0
   .have t1:(s2.err !=0)=false:=by simpa using h0
    have Ht:=hdz h0;have IV:=HI.o Ht;have gu:i<prev.length:=ae;have XV:=af (HF.o wr s2 i gu (X1.o.trans hx) hk);have HNd:=af (gj wr K c s2 (Nt prev[i] nm) 0 10 hk);have HT:=af (UY gu);have HX:=af hx
    unfold Nt at HNd;clear hdz hst UY hk hx h0 IV hle hz;go_wp2_with fail
    refine XV.o.mono ?_;rintro e w2 ⟨rfl,hw2⟩;subst hw2;go_wp2_with fail
    refine HNd.o.mono ?_;rintro e w3 ⟨rfl,hk3,hx3⟩;go_wp2
    exact ⟨⟨i+1,by rw [HT.o];exact hk3,HX.o.trans hx3,λ_=>ae,λhc=>absurd Ht hc,bq⟩,bz⟩
   .have t1:(s2.err !=0)=true:=by simpa using h0
    have HS:=af (hst h0);have zS:=af hk;have HX:=af hx
    clear hdz hst UY h0 hk hx;go_wp2
    exact bodyPost_ret (v:= .tuple #[]) aw rfl ⟨rfl,by rw [<-HS.o];exact zS.o,X1.o.trans HX.o⟩
  .have t0:decide ((i:Int)<s1.idx)=false:=by simpa using hlt
   have kd:s1.oX nm (prev.take i)=s1.oX nm prev:=by
    by_cases he:s1.err=0
    .have h1:=hle he
     have h2:=HI.o he;rw [List.take_of_length_le ae]
    .rw [St.rf _ _ _ he,St.rf _ _ _ he]
   rw [kd]at hk;clear kd hle hz;go_wp2
   exact bodyPost_end (v:= .tuple #[]) aw rfl ⟨rfl,hk,X1.o.trans hx⟩
theorem di.ar {w:World} {a:Option Addr} {c:Nat} {l:List iQ} (h:di w 3 a c (l.map iQ.cells)) (i:Nat) (hi:i<l.length): ∃b o,a=some ⟨b,o,none⟩/\w.cell? ⟨b,o+i*3,none⟩=some (.string l[i].name)/\w.cell? ⟨b,o+i*3+1,none⟩=some (.slice l[i].da l[i].eE.length l[i].dc)/\w.cell? ⟨b,o+i*3+2,none⟩=some (i64 l[i].er):=by
 obtain ⟨b,o,ha,hc⟩:=h.cell i (by simpa using hi);simp only [List.getElem_map]at hc;exact ⟨b,o,ha,hc 0 (by simp [iQ.cells]),hc 1 (by simp [iQ.cells]),hc 2 (by simp [iQ.cells])⟩
theorem iQ.at {w:World} {E:Nat} {T:TypeId} {x:iQ} (h:aY w E T x.cells):w.cell? ⟨E,0,none⟩=some (.string x.name)/\w.cell? ⟨E,1,none⟩=some (.slice x.da x.eE.length x.dc)/\w.cell? ⟨E,2,none⟩=some (i64 x.er):=
 ⟨(h.cell 0).trans rfl,(h.cell 1).trans rfl,(h.cell 2).trans rfl⟩
theorem di.lines {w:World} {a:Option Addr} {c:Nat} {l:List cX} (h:di w 12 a c (l.map cX.cells)) (i:Nat) (hi:i<l.length): ∃b o,a=some ⟨b,o,none⟩/\w.cell? ⟨b,o+i*12,none⟩=some (.string l[i].name)/\w.cell? ⟨b,o+i*12+1,none⟩=some (i64 l[i].fQ)/\w.cell? ⟨b,o+i*12+2,none⟩=some (i64 l[i].qZ)/\w.cell? ⟨b,o+i*12+3,none⟩=some (i64 l[i].rn)/\w.cell? ⟨b,o+i*12+4,none⟩=some (i64 l[i].rd)/\w.cell? ⟨b,o+i*12+5,none⟩=some (i64 l[i].Qp)/\w.cell? ⟨b,o+i*12+6,none⟩=some (i64 l[i].S4)/\w.cell? ⟨b,o+i*12+7,none⟩=some (i64 l[i].Qq)/\w.cell? ⟨b,o+i*12+8,none⟩=some (i64 l[i].S5)/\w.cell? ⟨b,o+i*12+9,none⟩=some (i64 l[i].tE)/\w.cell? ⟨b,o+i*12+10,none⟩=some (i64 l[i].FK)/\w.cell? ⟨b,o+i*12+11,none⟩=some (.slice l[i].aa l[i].away.length l[i].ac):=by
 obtain ⟨b,o,ha,hc⟩:=h.cell i (by simpa using hi);simp only [List.getElem_map]at hc;exact ⟨b,o,ha,hc 0 (by simp [cX.cells]),hc 1 (by simp [cX.cells]),hc 2 (by simp [cX.cells]),hc 3 (by simp [cX.cells]),hc 4 (by simp [cX.cells]),hc 5 (by simp [cX.cells]),hc 6 (by simp [cX.cells]),hc 7 (by simp [cX.cells]),hc 8 (by simp [cX.cells]),hc 9 (by simp [cX.cells]),hc 10 (by simp [cX.cells]),hc 11 (by simp [cX.cells])⟩
theorem cX.at {w:World} {E:Nat} {T:TypeId} {x:cX} (h:aY w E T x.cells):w.cell? ⟨E,0,none⟩=some (.string x.name)/\w.cell? ⟨E,1,none⟩=some (i64 x.fQ)/\w.cell? ⟨E,2,none⟩=some (i64 x.qZ)/\w.cell? ⟨E,3,none⟩=some (i64 x.rn)/\w.cell? ⟨E,4,none⟩=some (i64 x.rd)/\w.cell? ⟨E,5,none⟩=some (i64 x.Qp)/\w.cell? ⟨E,6,none⟩=some (i64 x.S4)/\w.cell? ⟨E,7,none⟩=some (i64 x.Qq)/\w.cell? ⟨E,8,none⟩=some (i64 x.S5)/\w.cell? ⟨E,9,none⟩=some (i64 x.tE)/\w.cell? ⟨E,10,none⟩=some (i64 x.FK)/\w.cell? ⟨E,11,none⟩=some (.slice x.aa x.away.length x.ac):=
 ⟨(h.cell 0).trans rfl,(h.cell 1).trans rfl,(h.cell 2).trans rfl,(h.cell 3).trans rfl,(h.cell 4).trans rfl,(h.cell 5).trans rfl,(h.cell 6).trans rfl,(h.cell 7).trans rfl,(h.cell 8).trans rfl,(h.cell 9).trans rfl,(h.cell 10).trans rfl,(h.cell 11).trans rfl⟩
theorem di.ay {w:World} {a:Option Addr} {c:Nat} {l:List cw} (h:di w 22 a c (l.map cw.cells)) (i:Nat) (hi:i<l.length): ∃b o,a=some ⟨b,o,none⟩/\w.cell? ⟨b,o+i*22,none⟩=some (.string l[i].name)/\w.cell? ⟨b,o+i*22+1,none⟩=some (i64 l[i].fc)/\w.cell? ⟨b,o+i*22+2,none⟩=some (i64 l[i].min)/\w.cell? ⟨b,o+i*22+3,none⟩=some (i64 l[i].max)/\w.cell? ⟨b,o+i*22+4,none⟩=some (.slice l[i].sa l[i].bR.length l[i].sc)/\w.cell? ⟨b,o+i*22+5,none⟩=some (i64 l[i].mA)/\w.cell? ⟨b,o+i*22+6,none⟩=some (i64 l[i].mB)/\w.cell? ⟨b,o+i*22+7,none⟩=some (i64 l[i].iW)/\w.cell? ⟨b,o+i*22+8,none⟩=some (i64 l[i].gV)/\w.cell? ⟨b,o+i*22+9,none⟩=some (i64 l[i].iX)/\w.cell? ⟨b,o+i*22+10,none⟩=some (i64 l[i].mC)/\w.cell? ⟨b,o+i*22+11,none⟩=some (i64 l[i].iY)/\w.cell? ⟨b,o+i*22+12,none⟩=some (i64 l[i].startTime)/\w.cell? ⟨b,o+i*22+13,none⟩=some (i64 l[i].j_)/\w.cell? ⟨b,o+i*22+14,none⟩=some (i64 l[i].iZ)/\w.cell? ⟨b,o+i*22+15,none⟩=some (i64 l[i].ja)/\w.cell? ⟨b,o+i*22+16,none⟩=some (i64 l[i].bC)/\w.cell? ⟨b,o+i*22+17,none⟩=some (i64 l[i].ez)/\w.cell? ⟨b,o+i*22+18,none⟩=some (.slice l[i].aa l[i].away.length l[i].ac)/\w.cell? ⟨b,o+i*22+19,none⟩=some (i64 l[i].state)/\w.cell? ⟨b,o+i*22+20,none⟩=some (i64 l[i].hours)/\w.cell? ⟨b,o+i*22+21,none⟩=some (i64 l[i].output):=by
 obtain ⟨b,o,ha,hc⟩:=h.cell i (by simpa using hi);simp only [List.getElem_map]at hc;exact ⟨b,o,ha,hc 0 (by simp [cw.cells]),hc 1 (by simp [cw.cells]),hc 2 (by simp [cw.cells]),hc 3 (by simp [cw.cells]),hc 4 (by simp [cw.cells]),hc 5 (by simp [cw.cells]),hc 6 (by simp [cw.cells]),hc 7 (by simp [cw.cells]),hc 8 (by simp [cw.cells]),hc 9 (by simp [cw.cells]),hc 10 (by simp [cw.cells]),hc 11 (by simp [cw.cells]),hc 12 (by simp [cw.cells]),hc 13 (by simp [cw.cells]),hc 14 (by simp [cw.cells]),hc 15 (by simp [cw.cells]),hc 16 (by simp [cw.cells]),hc 17 (by simp [cw.cells]),hc 18 (by simp [cw.cells]),hc 19 (by simp [cw.cells]),hc 20 (by simp [cw.cells]),hc 21 (by simp [cw.cells])⟩
theorem cw.at {w:World} {E:Nat} {T:TypeId} {x:cw} (h:aY w E T x.cells):w.cell? ⟨E,0,none⟩=some (.string x.name)/\w.cell? ⟨E,1,none⟩=some (i64 x.fc)/\w.cell? ⟨E,2,none⟩=some (i64 x.min)/\w.cell? ⟨E,3,none⟩=some (i64 x.max)/\w.cell? ⟨E,4,none⟩=some (.slice x.sa x.bR.length x.sc)/\w.cell? ⟨E,5,none⟩=some (i64 x.mA)/\w.cell? ⟨E,6,none⟩=some (i64 x.mB)/\w.cell? ⟨E,7,none⟩=some (i64 x.iW)/\w.cell? ⟨E,8,none⟩=some (i64 x.gV)/\w.cell? ⟨E,9,none⟩=some (i64 x.iX)/\w.cell? ⟨E,10,none⟩=some (i64 x.mC)/\w.cell? ⟨E,11,none⟩=some (i64 x.iY)/\w.cell? ⟨E,12,none⟩=some (i64 x.startTime)/\w.cell? ⟨E,13,none⟩=some (i64 x.j_)/\w.cell? ⟨E,14,none⟩=some (i64 x.iZ)/\w.cell? ⟨E,15,none⟩=some (i64 x.ja)/\w.cell? ⟨E,16,none⟩=some (i64 x.bC)/\w.cell? ⟨E,17,none⟩=some (i64 x.ez)/\w.cell? ⟨E,18,none⟩=some (.slice x.aa x.away.length x.ac)/\w.cell? ⟨E,19,none⟩=some (i64 x.state)/\w.cell? ⟨E,20,none⟩=some (i64 x.hours)/\w.cell? ⟨E,21,none⟩=some (i64 x.output):=
 ⟨(h.cell 0).trans rfl,(h.cell 1).trans rfl,(h.cell 2).trans rfl,(h.cell 3).trans rfl,(h.cell 4).trans rfl,(h.cell 5).trans rfl,(h.cell 6).trans rfl,(h.cell 7).trans rfl,(h.cell 8).trans rfl,(h.cell 9).trans rfl,(h.cell 10).trans rfl,(h.cell 11).trans rfl,(h.cell 12).trans rfl,(h.cell 13).trans rfl,(h.cell 14).trans rfl,(h.cell 15).trans rfl,(h.cell 16).trans rfl,(h.cell 17).trans rfl,(h.cell 18).trans rfl,(h.cell 19).trans rfl,(h.cell 20).trans rfl,(h.cell 21).trans rfl⟩
theorem di.stores {w:World} {a:Option Addr} {c:Nat} {l:List cI} (h:di w 9 a c (l.map cI.cells)) (i:Nat) (hi:i<l.length): ∃b o,a=some ⟨b,o,none⟩/\w.cell? ⟨b,o+i*9,none⟩=some (.string l[i].name)/\w.cell? ⟨b,o+i*9+1,none⟩=some (i64 l[i].fc)/\w.cell? ⟨b,o+i*9+2,none⟩=some (i64 l[i].capacity)/\w.cell? ⟨b,o+i*9+3,none⟩=some (i64 l[i].initial)/\w.cell? ⟨b,o+i*9+4,none⟩=some (i64 l[i].final)/\w.cell? ⟨b,o+i*9+5,none⟩=some (i64 l[i].cB)/\w.cell? ⟨b,o+i*9+6,none⟩=some (i64 l[i].discharge)/\w.cell? ⟨b,o+i*9+7,none⟩=some (i64 l[i].en)/\w.cell? ⟨b,o+i*9+8,none⟩=some (i64 l[i].ed):=by
 obtain ⟨b,o,ha,hc⟩:=h.cell i (by simpa using hi);simp only [List.getElem_map]at hc;exact ⟨b,o,ha,hc 0 (by simp [cI.cells]),hc 1 (by simp [cI.cells]),hc 2 (by simp [cI.cells]),hc 3 (by simp [cI.cells]),hc 4 (by simp [cI.cells]),hc 5 (by simp [cI.cells]),hc 6 (by simp [cI.cells]),hc 7 (by simp [cI.cells]),hc 8 (by simp [cI.cells])⟩
theorem cI.at {w:World} {E:Nat} {T:TypeId} {x:cI} (h:aY w E T x.cells):w.cell? ⟨E,0,none⟩=some (.string x.name)/\w.cell? ⟨E,1,none⟩=some (i64 x.fc)/\w.cell? ⟨E,2,none⟩=some (i64 x.capacity)/\w.cell? ⟨E,3,none⟩=some (i64 x.initial)/\w.cell? ⟨E,4,none⟩=some (i64 x.final)/\w.cell? ⟨E,5,none⟩=some (i64 x.cB)/\w.cell? ⟨E,6,none⟩=some (i64 x.discharge)/\w.cell? ⟨E,7,none⟩=some (i64 x.en)/\w.cell? ⟨E,8,none⟩=some (i64 x.ed):=
 ⟨(h.cell 0).trans rfl,(h.cell 1).trans rfl,(h.cell 2).trans rfl,(h.cell 3).trans rfl,(h.cell 4).trans rfl,(h.cell 5).trans rfl,(h.cell 6).trans rfl,(h.cell 7).trans rfl,(h.cell 8).trans rfl⟩
theorem di.bF {w:World} {a:Option Addr} {c:Nat} {l:List gY} (h:di w 5 a c (l.map gY.cells)) (i:Nat) (hi:i<l.length): ∃b o,a=some ⟨b,o,none⟩/\w.cell? ⟨b,o+i*5,none⟩=some (.string l[i].name)/\w.cell? ⟨b,o+i*5+1,none⟩=some (i64 l[i].fc)/\w.cell? ⟨b,o+i*5+2,none⟩=some (.slice l[i].ia l[i].imp.length l[i].ic)/\w.cell? ⟨b,o+i*5+3,none⟩=some (.slice l[i].ea l[i].exp.length l[i].ec)/\w.cell? ⟨b,o+i*5+4,none⟩=some (.slice l[i].pa l[i].gm.length l[i].pc):=by
 obtain ⟨b,o,ha,hc⟩:=h.cell i (by simpa using hi);simp only [List.getElem_map]at hc;exact ⟨b,o,ha,hc 0 (by simp [gY.cells]),hc 1 (by simp [gY.cells]),hc 2 (by simp [gY.cells]),hc 3 (by simp [gY.cells]),hc 4 (by simp [gY.cells])⟩
theorem gY.at {w:World} {E:Nat} {T:TypeId} {x:gY} (h:aY w E T x.cells):w.cell? ⟨E,0,none⟩=some (.string x.name)/\w.cell? ⟨E,1,none⟩=some (i64 x.fc)/\w.cell? ⟨E,2,none⟩=some (.slice x.ia x.imp.length x.ic)/\w.cell? ⟨E,3,none⟩=some (.slice x.ea x.exp.length x.ec)/\w.cell? ⟨E,4,none⟩=some (.slice x.pa x.gm.length x.pc):=
 ⟨(h.cell 0).trans rfl,(h.cell 1).trans rfl,(h.cell 2).trans rfl,(h.cell 3).trans rfl,(h.cell 4).trans rfl⟩
theorem di.outs {w:World} {a:Option Addr} {c:Nat} {l:List ee} (h:di w 4 a c (l.map ee.cells)) (i:Nat) (hi:i<l.length): ∃b o,a=some ⟨b,o,none⟩/\w.cell? ⟨b,o+i*4,none⟩=some (.string l[i].name)/\w.cell? ⟨b,o+i*4+1,none⟩=some (.slice l[i].la l[i].lines.length l[i].lc)/\w.cell? ⟨b,o+i*4+2,none⟩=some (.bool l[i].bY)/\w.cell? ⟨b,o+i*4+3,none⟩=some (.slice l[i].ma l[i].moves.length l[i].mc):=by
 obtain ⟨b,o,ha,hc⟩:=h.cell i (by simpa using hi);simp only [List.getElem_map]at hc;exact ⟨b,o,ha,hc 0 (by simp [ee.cells]),hc 1 (by simp [ee.cells]),hc 2 (by simp [ee.cells]),hc 3 (by simp [ee.cells])⟩
theorem ee.at {w:World} {E:Nat} {T:TypeId} {x:ee} (h:aY w E T x.cells):w.cell? ⟨E,0,none⟩=some (.string x.name)/\w.cell? ⟨E,1,none⟩=some (.slice x.la x.lines.length x.lc)/\w.cell? ⟨E,2,none⟩=some (.bool x.bY)/\w.cell? ⟨E,3,none⟩=some (.slice x.ma x.moves.length x.mc):=
 ⟨(h.cell 0).trans rfl,(h.cell 1).trans rfl,(h.cell 2).trans rfl,(h.cell 3).trans rfl⟩
theorem di.bR {w:World} {a:Option Addr} {c:Nat} {l:List iI} (h:di w 2 a c (l.map iI.cells)) (i:Nat) (hi:i<l.length): ∃b o,a=some ⟨b,o,none⟩/\w.cell? ⟨b,o+i*2,none⟩=some (i64 l[i].width)/\w.cell? ⟨b,o+i*2+1,none⟩=some (i64 l[i].gm):=by
 obtain ⟨b,o,ha,hc⟩:=h.cell i (by simpa using hi);simp only [List.getElem_map]at hc;exact ⟨b,o,ha,hc 0 (by simp [iI.cells]),hc 1 (by simp [iI.cells])⟩
theorem iI.at {w:World} {E:Nat} {T:TypeId} {x:iI} (h:aY w E T x.cells):w.cell? ⟨E,0,none⟩=some (i64 x.width)/\w.cell? ⟨E,1,none⟩=some (i64 x.gm):=
 ⟨(h.cell 0).trans rfl,(h.cell 1).trans rfl⟩
theorem di.moves {w:World} {a:Option Addr} {c:Nat} {l:List cH} (h:di w 3 a c (l.map cH.cells)) (i:Nat) (hi:i<l.length): ∃b o,a=some ⟨b,o,none⟩/\w.cell? ⟨b,o+i*3,none⟩=some (i64 l[i].unit)/\w.cell? ⟨b,o+i*3+1,none⟩=some (i64 l[i].up)/\w.cell? ⟨b,o+i*3+2,none⟩=some (i64 l[i].down):=by
 obtain ⟨b,o,ha,hc⟩:=h.cell i (by simpa using hi);simp only [List.getElem_map]at hc;exact ⟨b,o,ha,hc 0 (by simp [cH.cells]),hc 1 (by simp [cH.cells]),hc 2 (by simp [cH.cells])⟩
theorem cH.at {w:World} {E:Nat} {T:TypeId} {x:cH} (h:aY w E T x.cells):w.cell? ⟨E,0,none⟩=some (i64 x.unit)/\w.cell? ⟨E,1,none⟩=some (i64 x.up)/\w.cell? ⟨E,2,none⟩=some (i64 x.down):=
 ⟨(h.cell 0).trans rfl,(h.cell 1).trans rfl,(h.cell 2).trans rfl⟩
theorem aY.but {K:Nat} {w w':World} {b:Nat} {T:TypeId} {vs:List Value} (h:aY w b T vs) (e:aH K w w') (hb:b≠K):aY w' b T vs:=by
 unfold aY;rw [e.block b h.lt hb];exact h
theorem g_ {K:Nat} {w w':World} {p:Addr} {v:Value} (h:w.cell? p=some v) (e:aH K w w') (hb:p.block≠K):w'.cell? p=some v:=by
 have h2:=eH h;unfold World.cell? at*;rw [e.block _ h2 hb];exact h
theorem OA (w0 V:World) (K B:Nat) (c:aq) (s:St) (i:Nat) (hK:w0.heap.size<=K) (hV:Ext w0 V) (hc:bK w0 c) (h:kg V K c s) (hB:V.cell? ⟨B,0,none⟩=some (.pointer (some ⟨K,0,none⟩))) (hi:i<c.ar.length):
 Calls prog 167 #[i64 i,.pointer (some ⟨B,0,none⟩)] V λe w'=>e= .returned (.string c.ar[i].name)/\w'=V:=by
 have hr:=(hc.ar.ext hV);have hle:=hr.le;have eI:=hr.cap
 rw [List.length_map]at hle;obtain ⟨b,o,ha,c0,-⟩:=hr.ar i hi;obtain ⟨k0,k1,k2,k3,k4,k5,k6,k7⟩:=fJ h;rw [ha]at k2;have mn:(0:Int)<=(i:Int):=ae;have mq:(i:Int)<(c.ar.length:Int):=ae;clear h hc hr hV ha;go_enter func167,ntmps167
 go_wp2
 go_ret;exact ⟨rfl,rfl⟩
theorem OB (w0 V:World) (K B:Nat) (c:aq) (s:St) (i:Nat) (hK:w0.heap.size<=K) (hV:Ext w0 V) (hc:bK w0 c) (h:kg V K c s) (hB:V.cell? ⟨B,0,none⟩=some (.pointer (some ⟨K,0,none⟩))) (hi:i<c.lines.length):
 Calls prog 168 #[i64 i,.pointer (some ⟨B,0,none⟩)] V λe w'=>e= .returned (.string c.lines[i].name)/\w'=V:=by
 have hr:=(hc.lines.ext hV);have hle:=hr.le;have eI:=hr.cap
 rw [List.length_map]at hle;obtain ⟨b,o,ha,c0,-⟩:=hr.lines i hi;obtain ⟨k0,k1,k2,k3,k4,k5,k6,k7⟩:=fJ h;rw [ha]at k3;have mn:(0:Int)<=(i:Int):=ae;have mq:(i:Int)<(c.lines.length:Int):=ae;clear h hc hr hV ha;go_enter func168,ntmps168
 go_wp2
 go_ret;exact ⟨rfl,rfl⟩
theorem OC (w0 V:World) (K B:Nat) (c:aq) (s:St) (i:Nat) (hK:w0.heap.size<=K) (hV:Ext w0 V) (hc:bK w0 c) (h:kg V K c s) (hB:V.cell? ⟨B,0,none⟩=some (.pointer (some ⟨K,0,none⟩))) (hi:i<c.ay.length):
 Calls prog 172 #[i64 i,.pointer (some ⟨B,0,none⟩)] V λe w'=>e= .returned (.string c.ay[i].name)/\w'=V:=by
 have hr:=(hc.ay.ext hV);have hle:=hr.le;have eI:=hr.cap
 rw [List.length_map]at hle;obtain ⟨b,o,ha,c0,-⟩:=hr.ay i hi;obtain ⟨k0,k1,k2,k3,k4,k5,k6,k7⟩:=fJ h;rw [ha]at k4;have mn:(0:Int)<=(i:Int):=ae;have mq:(i:Int)<(c.ay.length:Int):=ae;clear h hc hr hV ha;go_enter func172,ntmps172
 go_wp2
 go_ret;exact ⟨rfl,rfl⟩
theorem L6 (w0 V:World) (K B:Nat) (c:aq) (s:St) (i:Nat) (hK:w0.heap.size<=K) (hV:Ext w0 V) (hc:bK w0 c) (h:kg V K c s) (hB:V.cell? ⟨B,0,none⟩=some (.pointer (some ⟨K,0,none⟩))) (hi:i<c.stores.length):
 Calls prog 174 #[i64 i,.pointer (some ⟨B,0,none⟩)] V λe w'=>e= .returned (.string c.stores[i].name)/\w'=V:=by
 have hr:=(hc.stores.ext hV);have hle:=hr.le;have eI:=hr.cap
 rw [List.length_map]at hle;obtain ⟨b,o,ha,c0,-⟩:=hr.stores i hi;obtain ⟨k0,k1,k2,k3,k4,k5,k6,k7⟩:=fJ h;rw [ha]at k5;have mn:(0:Int)<=(i:Int):=ae;have mq:(i:Int)<(c.stores.length:Int):=ae;clear h hc hr hV ha;go_enter func174,ntmps174
 go_wp2
 go_ret;exact ⟨rfl,rfl⟩
theorem Re (w0 V:World) (K B:Nat) (c:aq) (s:St) (i:Nat) (hK:w0.heap.size<=K) (hV:Ext w0 V) (hc:bK w0 c) (h:kg V K c s) (hB:V.cell? ⟨B,0,none⟩=some (.pointer (some ⟨K,0,none⟩))) (hi:i<c.bF.length):
 Calls prog 175 #[i64 i,.pointer (some ⟨B,0,none⟩)] V λe w'=>e= .returned (.string c.bF[i].name)/\w'=V:=by
 have hr:=(hc.bF.ext hV);have hle:=hr.le;have eI:=hr.cap
 rw [List.length_map]at hle;obtain ⟨b,o,ha,c0,-⟩:=hr.bF i hi;obtain ⟨k0,k1,k2,k3,k4,k5,k6,k7⟩:=fJ h;rw [ha]at k6;have mn:(0:Int)<=(i:Int):=ae;have mq:(i:Int)<(c.bF.length:Int):=ae;clear h hc hr hV ha;go_enter func175,ntmps175
 go_wp2
 go_ret;exact ⟨rfl,rfl⟩
theorem Rf (w0 V:World) (K B:Nat) (c:aq) (s:St) (i:Nat) (hK:w0.heap.size<=K) (hV:Ext w0 V) (hc:bK w0 c) (h:kg V K c s) (hB:V.cell? ⟨B,0,none⟩=some (.pointer (some ⟨K,0,none⟩))) (hi:i<c.outs.length):
 Calls prog 176 #[i64 i,.pointer (some ⟨B,0,none⟩)] V λe w'=>e= .returned (.string c.outs[i].name)/\w'=V:=by
 have hr:=(hc.outs.ext hV);have hle:=hr.le;have eI:=hr.cap
 rw [List.length_map]at hle;obtain ⟨b,o,ha,c0,-⟩:=hr.outs i hi;obtain ⟨k0,k1,k2,k3,k4,k5,k6,k7⟩:=fJ h;rw [ha]at k7;have mn:(0:Int)<=(i:Int):=ae;have mq:(i:Int)<(c.outs.length:Int):=ae;clear h hc hr hV ha;go_enter func176,ntmps176
 go_wp2
 go_ret;exact ⟨rfl,rfl⟩
