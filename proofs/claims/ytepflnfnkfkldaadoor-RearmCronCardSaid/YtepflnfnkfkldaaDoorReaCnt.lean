/- How many minutes match, as plain numbers. No condition. -/
import Derived.Test.YtepflnfnkfkldaaDoorPReax23
import Derived.Test.YtepflnfnkfkldaaDoorReaLib
namespace Go.Proofs.YtepflnfnkfkldaaDoor.PRea
open Go.RowKit Go.Proofs.YtepflnfnkfkldaaDoorW.PrintWords Go.Proofs.YtepflnfnkfkldaaDoorW.PrintLast Go.Proofs.YtepflnfnkfkldaaDoorW.PrintMore
set_option linter.unusedVariables false
set_option linter.unusedSimpArgs false
theorem bits_u64 (a b:Nat)(ha:a < 2 ^ 64)(hb:b < 2 ^ 64):Go.bits .and .u64 a b=((a &&& b:Nat):Int)∧Go.bits .or .u64 a b=((a ||| b:Nat):Int):=
  bits_nat .u64 64 (by decide) (fun z h0 h1=>IntWalk.u64_in z ⟨h0,by omega⟩) a b ha hb
/-! What day's functions answer, as plain numbers. -/
theorem u32w (z:Int):IntKind.u32.wrap z=z % 4294967296:=by simp [IntKind.wrap,IntKind.bits,IntKind.signed]
theorem mask_is {b0 : Int} {s0 : Bool} {b1 : Int} {s1 : Bool} {b2 : Int} {s2 : Bool} {b3 : Int} {s3 : Bool} {b4 : Int} {s4 : Bool} (h0 : InU b0) (h1 : InU b1) (h2 : InU b2) (h3 : InU b3) (h4 : InU b4) {ob : Bool}
    (A:day_odd.f b0 s0 b1 s1 b2 s2 b3 s3 b4 s4=some ob) (y m:Int):day_Mask.f b0 s0 b1 s1 b2 s2 b3 s3 b4 s4 y m=some (Dy.mask ob b2 s2 b3 b4 s4 y m):=by
  unfold day_Mask.f
  rw [if_pos (okS_of h0 h1 h2 h3 h4),A]
  rfl
theorem match_is {b0 : Int} {s0 : Bool} {b1 : Int} {s1 : Bool} {b2 : Int} {s2 : Bool} {b3 : Int} {s3 : Bool} {b4 : Int} {s4 : Bool} (h0 : InU b0) (h1 : InU b1) (h2 : InU b2) (h3 : InU b3) (h4 : InU b4) {ob : Bool}
    (A:day_odd.f b0 s0 b1 s1 b2 s2 b3 s3 b4 s4=some ob) (t:Int):day_Match.f b0 s0 b1 s1 b2 s2 b3 s3 b4 s4 t=some (Dy.match_ ob b0 b1 b2 s2 b3 b4 s4 t):=by
  unfold day_Match.f
  rw [if_pos (okS_of h0 h1 h2 h3 h4),A]
  rfl
/-! How many bits: what bits.OnesCount64 reckons. -/
def popN:Nat→Nat→Nat
  | 0,_=>0
  | f+1,n=>n % 2+popN f (n / 2)
def val8:List Nat→Nat
  | []=>0
  | b :: l=>b+256*val8 l
def rep8 (c:Nat):Nat→Nat
  | 0=>0
  | k+1=>c+256*rep8 c k
theorem and_pow:∀ (k l h c m:Nat),l < 2 ^ k→c < 2 ^ k→(l+2 ^ k*h) &&& (c+2 ^ k*m)=(l &&& c)+2 ^ k*(h &&& m)
  | 0,l,h,c,m,hl,hc=>by
    have:l=0:=by simpa using hl
    have:c=0:=by simpa using hc
    subst l; subst c; simp
  | k+1,l,h,c,m,hl,hc=>by
    have e:2 ^ (k+1)=2*2 ^ k:=by rw [Nat.pow_succ]; omega
    have e1:l+2 ^ (k+1)*h=2*(l / 2+2 ^ k*h)+l % 2:=by rw [e,Nat.mul_assoc]; omega
    have e2:c+2 ^ (k+1)*m=2*(c / 2+2 ^ k*m)+c % 2:=by rw [e,Nat.mul_assoc]; omega
    have e3:(l &&& c)=2*((l / 2) &&& (c / 2))+((l % 2) &&& (c % 2)):=by
      rw [← Fld.and_split _ _ _ _ (by omega) (by omega)]
      congr 1 <;> omega
    rw [e1,e2,Fld.and_split _ _ _ _ (by omega) (by omega),and_pow k _ _ _ _ (by omega) (by omega),e3,e,Nat.mul_assoc]
    omega
theorem and_byte (l h c m:Nat)(hl:l < 256)(hc:c < 256):(l+256*h) &&& (c+256*m)=(l &&& c)+256*(h &&& m):=and_pow 8 l h c m hl hc
def f3 (b:Nat):Nat:=(b / 16+b) &&& 15
theorem d3:∀ b:Fin 103,∀ r:Fin 16,((b.val / 16+16*r.val+b.val) &&& 15)=f3 b.val∧(b.val < 69→b.val / 16+16*r.val+b.val < 256+256*2):=by decide +kernel
theorem stage1:∀ (l:List Nat),(∀ b ∈ l,b < 256)→(val8 l / 2 &&& rep8 85 l.length)+(val8 l &&& rep8 85 l.length)=val8 (l.map f1)
  | [],_=>rfl
  | b :: l,h=>by
    have hb:=h b (List.mem_cons_self ..)
    have ih:=stage1 l (fun x hx=>h x (List.mem_cons_of_mem _ hx))
    obtain ⟨q1,q2,q3⟩ :=d1 ⟨b,hb⟩ ⟨val8 l % 2,by omega⟩
    dsimp only at q1 q2 q3
    have e:val8 (b :: l) / 2=(b / 2+128*(val8 l % 2))+256*(val8 l / 2):=by simp only [val8]; omega
    rw [e]
    simp only [val8,rep8,List.length_cons,List.map_cons]
    rw [and_byte _ _ _ _ q2 (by decide),and_byte _ _ _ _ hb (by decide),q1,← ih]
    unfold f1
    omega
theorem stage2:∀ (l:List Nat),(∀ b ∈ l,b < 256)→(val8 l / 4 &&& rep8 51 l.length)+(val8 l &&& rep8 51 l.length)=val8 (l.map f2)
  | [],_=>rfl
  | b :: l,h=>by
    have hb:=h b (List.mem_cons_self ..)
    have ih:=stage2 l (fun x hx=>h x (List.mem_cons_of_mem _ hx))
    obtain ⟨q1,q2,q3⟩ :=d2 ⟨b,hb⟩ ⟨val8 l % 4,by omega⟩
    dsimp only at q1 q2 q3
    have e:val8 (b :: l) / 4=(b / 4+64*(val8 l % 4))+256*(val8 l / 4):=by simp only [val8]; omega
    rw [e]
    simp only [val8,rep8,List.length_cons,List.map_cons]
    rw [and_byte _ _ _ _ q2 (by decide),and_byte _ _ _ _ hb (by decide),q1,← ih]
    unfold f2
    omega
theorem stage3:∀ (l:List Nat),(∀ b ∈ l,b < 69∧b % 16≤4)→((val8 l / 16+val8 l) &&& rep8 15 l.length)=val8 (l.map f3)∧val8 l % 16≤4
  | [],_=>⟨rfl,by decide⟩
  | b :: l,h=>by
    obtain ⟨hb,hb4⟩ :=h b (List.mem_cons_self ..)
    obtain ⟨ih,i4⟩ :=stage3 l (fun x hx=>h x (List.mem_cons_of_mem _ hx))
    obtain ⟨q1,-⟩ :=d3 ⟨b,by omega⟩ ⟨val8 l % 16,by omega⟩
    dsimp only at q1
    have e:val8 (b :: l) / 16+val8 (b :: l)=(b / 16+16*(val8 l % 16)+b)+256*(val8 l / 16+val8 l):=by simp only [val8]; omega
    rw [e]
    simp only [val8,rep8,List.length_cons,List.map_cons]
    rw [and_byte _ _ _ _ (by omega) (by decide),q1,ih]
    exact ⟨rfl,by omega⟩
theorem d5:∀ b:Fin 256,f3 (f2 (f1 b.val))=popN 8 b.val∧f1 b.val < 256∧f2 (f1 b.val) < 69∧f2 (f1 b.val) % 16≤4∧popN 8 b.val≤8:=by decide +kernel
theorem popN_add:∀ (k f n:Nat),popN (k+f) n=popN k (n % 2 ^ k)+popN f (n / 2 ^ k)
  | 0,f,n=>by simp [popN,Nat.mod_one]
  | k+1,f,n=>by
    rw [show k+1+f=(k+f)+1 by omega]
    simp only [popN]
    rw [popN_add k f (n / 2)]
    have e:2 ^ (k+1)=2*2 ^ k:=by rw [Nat.pow_succ]; omega
    rw [e,Nat.mod_mul,Nat.div_div_eq_div_mul]
    have e1:(n % 2+2*(n / 2 % 2 ^ k)) % 2=n % 2:=by omega
    have e2:(n % 2+2*(n / 2 % 2 ^ k)) / 2=n / 2 % 2 ^ k:=by omega
    rw [e1,e2,Nat.add_assoc]
def bytes8:Nat→Nat→List Nat
  | 0,_=>[]
  | k+1,n=>n % 256 :: bytes8 k (n / 256)
theorem bytes8_lt:∀ (k n:Nat),∀ b ∈ bytes8 k n,b < 256
  | 0,_,b,h=>by cases h
  | k+1,n,b,h=>by
    rcases List.mem_cons.1 h with rfl | h
    · exact Nat.mod_lt _ (by decide)
    · exact bytes8_lt k _ b h
theorem bytes8_len:∀ (k n:Nat),(bytes8 k n).length=k
  | 0,_=>rfl
  | k+1,n=>by simp only [bytes8,List.length_cons,bytes8_len k]
theorem bytes8_val:∀ (k n:Nat),n < 256 ^ k→val8 (bytes8 k n)=n
  | 0, n, h => by have : n = 0 := by simpa using h
                  subst this; rfl
  | k+1,n,h=>by
    simp only [bytes8,val8]
    rw [bytes8_val k (n / 256) (by rw [Nat.pow_succ] at h; exact Nat.div_lt_of_lt_mul (by rw [Nat.mul_comm]; exact h))]
    omega
theorem pop_bytes:∀ (k n:Nat),popN (8*k) n=((bytes8 k n).map (popN 8)).sum
  | 0,n=>rfl
  | k+1,n=>by
    rw [show 8*(k+1)=8+8*k by omega,popN_add]
    simp only [bytes8,List.map_cons,List.sum_cons]
    rw [pop_bytes k]
theorem u64_add (a b:Nat)(h:a+b < 18446744073709551616):IntKind.u64.wrap ((a:Int)+(b:Int))=((a+b:Nat):Int):=by rw [u64w]; omega
theorem and_u64 (a m:Nat)(ha:a < 18446744073709551616)(hm:m < 18446744073709551616):Go.bits .and .u64 (a:Int) (m:Int)=((a &&& m:Nat):Int):=(bits_u64 a m ha hm).1
theorem val8_lt:∀ (l:List Nat),(∀ b ∈ l,b < 256)→val8 l < 256 ^ l.length
  | [],_=>by simp [val8]
  | b :: l,h=>by
    have:=val8_lt l (fun x hx=>h x (List.mem_cons_of_mem _ hx))
    have hb:=h b (List.mem_cons_self ..)
    simp only [val8,List.length_cons]
    rw [Nat.pow_succ]
    generalize 256 ^ l.length=q at this ⊢
    omega
theorem small8 (y0 y1 y2 y3 y4 y5 y6 y7 V : Nat) (h0 : y0 < 69) (h1 : y1 < 69) (h2 : y2 < 69) (h3 : y3 < 69) (h4 : y4 < 69) (h5 : y5 < 69) (h6 : y6 < 69) (h7 : y7 < 69)
    (hV:y0+256*(y1+256*(y2+256*(y3+256*(y4+256*(y5+256*(y6+256*(y7+256*0)))))))=V):V / 16+V < 18446744073709551616:=by omega
theorem small_list:∀ (M:List Nat),M.length=8→(∀ b ∈ M,b < 69)→val8 M / 16+val8 M < 18446744073709551616
  | [y0,y1,y2,y3,y4,y5,y6,y7],_,h=>small8 y0 y1 y2 y3 y4 y5 y6 y7 _ (h y0 (by simp)) (h y1 (by simp)) (h y2 (by simp)) (h y3 (by simp)) (h y4 (by simp)) (h y5 (by simp)) (h y6 (by simp)) (h y7 (by simp)) rfl
theorem st1 (e0 e1 e2 R0 R1 R2 V3 : Nat) (h0 : e0 ≤ 8) (h1 : e1 ≤ 8) (h2 : e2 ≤ 8) (q1 : e2 + 256 * R2 = R1) (q0 : e1 + 256 * R1 = R0) (qV : e0 + 256 * R0 = V3) :
    V3 / 256=R0∧V3+R0=((e0+e1)+256*(e1+e2))+65536*(R1+R2):=by omega
theorem st2 (A B C T S12 S34 W : Nat) (hA : A ≤ 4112) (hB : B ≤ 4112) (hC : C ≤ 4112) (q1 : S12 = B + 65536 * S34) (q2 : S34 = C + 65536 * T) (qW : W = A + 65536 * S12) :
    W / 65536=S12∧(W+S12) / 4294967296=S34+T∧W+S12+(S34+T)=A+B+C+T+65536*(B+C+T)+4294967296*(S34+T):=by omega
theorem and127 (W:Nat)(h:W≤800000000000000000):Go.bits .and .i64 (W:Int) 127=(W:Int) % 128:=by
  have h1:((W:Int)) < 2 ^ 63:=by rw [show (2:Int) ^ 63=9223372036854775808 by decide]; omega
  have:=bits_mask .i64 63 (by decide) (fun z h0 h1=>IntWalk.i64_in z ⟨by omega,by rw [show (2:Int) ^ 63=9223372036854775808 by decide] at h1; omega⟩) 7 (by decide) (W:Int) (by omega) h1
  rw [show (2:Int) ^ 7 - 1=127 by decide,show (2:Int) ^ 7=128 by decide] at this
  exact this
theorem tail8 (e0 e1 e2 e3 e4 e5 e6 e7 V3 : Nat) (h0 : e0 ≤ 8) (h1 : e1 ≤ 8) (h2 : e2 ≤ 8) (h3 : e3 ≤ 8) (h4 : e4 ≤ 8) (h5 : e5 ≤ 8) (h6 : e6 ≤ 8) (h7 : e7 ≤ 8)
    (hV:e0+256*(e1+256*(e2+256*(e3+256*(e4+256*(e5+256*(e6+256*(e7+256*0)))))))=V3) :
    some (Go.bits .and .i64 (wrap64 (IntKind.u64.wrap ((IntKind.u64.wrap ((IntKind.u64.wrap ((V3:Int)+(V3:Int) / 256))+(IntKind.u64.wrap ((V3:Int)+(V3:Int) / 256)) / 65536))+(IntKind.u64.wrap ((IntKind.u64.wrap ((V3:Int)+(V3:Int) / 256))+(IntKind.u64.wrap ((V3:Int)+(V3:Int) / 256)) / 65536)) / 4294967296))) 127)
      = some ((e0+(e1+(e2+(e3+(e4+(e5+(e6+(e7+0))))))):Nat):Int):=by
    obtain ⟨R5,q5⟩:∃ R,e6+256*e7=R:=⟨_,rfl⟩
    obtain ⟨R4,q4⟩:∃ R,e5+256*R5=R:=⟨_,rfl⟩
    obtain ⟨R3,q3⟩:∃ R,e4+256*R4=R:=⟨_,rfl⟩
    obtain ⟨R2,q2⟩:∃ R,e3+256*R3=R:=⟨_,rfl⟩
    obtain ⟨R1,q1⟩:∃ R,e2+256*R2=R:=⟨_,rfl⟩
    obtain ⟨R0,q0⟩:∃ R,e1+256*R1=R:=⟨_,rfl⟩
    have qV:e0+256*R0=V3:=by rw [← hV,← q0,← q1,← q2,← q3,← q4,← q5,Nat.mul_zero,Nat.add_zero]
    clear hV
    have b5:R5≤2056:=by clear q4 q3 q2 q1 q0 qV; omega
    have b4:R4≤526344:=by clear q5 q3 q2 q1 q0 qV; omega
    have b3:R3≤134744072:=by clear q5 q4 q2 q1 q0 qV; omega
    have b2:R2≤34494482440:=by clear q5 q4 q3 q1 q0 qV; omega
    have b1:R1≤8830587504648:=by clear q5 q4 q3 q2 q0 qV; omega
    have b0:R0≤2260630401189896:=by clear q5 q4 q3 q2 q1 qV; omega
    have bV:V3≤578721382704613384:=by clear q5 q4 q3 q2 q1 q0; omega
    obtain ⟨d1,c1⟩ :=st1 e0 e1 e2 R0 R1 R2 V3 h0 h1 h2 q1 q0 qV
    have s12:R1+R2=((e2+e3)+256*(e3+e4))+65536*(R3+R4):=by clear q5 q0 qV c1 d1 b0 b1 b2 b3 b4 b5 bV h0 h1 h2 h3 h4 h5 h6 h7; omega
    have s34:R3+R4=((e4+e5)+256*(e5+e6))+65536*(R5+e7):=by clear q2 q1 q0 qV c1 d1 b0 b1 b2 b3 b4 b5 bV h0 h1 h2 h3 h4 h5 h6 h7 s12; omega
    obtain ⟨W1,hW1⟩:∃ W,V3+R0=W:=⟨_,rfl⟩
    rw [hW1] at c1
    obtain ⟨d2,d3,c3⟩ :=st2 ((e0+e1)+256*(e1+e2)) ((e2+e3)+256*(e3+e4)) ((e4+e5)+256*(e5+e6)) (R5+e7) (R1+R2) (R3+R4) W1 (by clear q0 q1 q2 q3 q4 q5 qV c1; omega) (by clear q0 q1 q2 q3 q4 q5 qV c1; omega) (by clear q0 q1 q2 q3 q4 q5 qV c1; omega) s12 s34 c1
    have w1:IntKind.u64.wrap ((V3:Int)+(V3:Int) / 256)=(W1:Int):=by clear q0 q1 q2 q3 q4 q5 qV c1 s12 s34 d2 d3 c3; rw [u64w]; omega
    rw [w1]
    have bW:W1≤600000000000000000:=by clear q0 q1 q2 q3 q4 q5 qV c1 s12 s34 d2 d3 c3; omega
    have w2:IntKind.u64.wrap ((W1:Int)+(W1:Int) / 65536)=((W1+(R1+R2):Nat):Int):=by clear q0 q1 q2 q3 q4 q5 qV c1 s12 s34 d3 c3; rw [u64w]; omega
    rw [w2]
    obtain ⟨W2,hW2⟩:∃ W,W1+(R1+R2)=W:=⟨_,rfl⟩
    rw [hW2] at d3 c3 ⊢
    have bX:W2≤700000000000000000:=by clear q0 q1 q2 q3 q4 q5 qV c1 s12 s34 d2 d3 c3; omega
    have w3:IntKind.u64.wrap ((W2:Int)+(W2:Int) / 4294967296)=((W2+(R3+R4+(R5+e7)):Nat):Int):=by clear q0 q1 q2 q3 q4 q5 qV c1 s12 s34 d2 c3; rw [u64w]; omega
    rw [w3]
    obtain ⟨W3,hW3⟩:∃ W,W2+(R3+R4+(R5+e7))=W:=⟨_,rfl⟩
    rw [hW3] at c3 ⊢
    have bY:W3≤800000000000000000:=by clear q0 q1 q2 q3 q4 q5 qV c1 s12 s34 d2 d3 c3; omega
    have hm:W3 % 128=e0+(e1+(e2+(e3+(e4+(e5+(e6+(e7+0))))))):=by
      clear q0 q1 q2 q3 q4 qV c1 s12 s34 d2 d3 w1 w2 w3 hW1 hW2 hW3 bW bX bY b0 b1 b2 b3 b4 b5 bV
      rw [c3,← q5]
      omega
    have w4:wrap64 (W3:Int)=(W3:Int):=by clear q0 q1 q2 q3 q4 q5 qV c1 s12 s34 d2 d3 c3 hm; unfold wrap64; omega
    rw [w4]
    have w5:Go.bits .and .i64 (W3:Int) 127=(W3:Int) % 128:=and127 W3 bY
    rw [w5,← hm]
    rfl
theorem tail_list : ∀ (M : List Nat) (V3 : Nat), M.length = 8 → (∀ b ∈ M, b ≤ 8) → val8 M = V3 →
    some (Go.bits .and .i64 (wrap64 (IntKind.u64.wrap ((IntKind.u64.wrap ((IntKind.u64.wrap ((V3:Int)+(V3:Int) / 256))+(IntKind.u64.wrap ((V3:Int)+(V3:Int) / 256)) / 65536))+(IntKind.u64.wrap ((IntKind.u64.wrap ((V3:Int)+(V3:Int) / 256))+(IntKind.u64.wrap ((V3:Int)+(V3:Int) / 256)) / 65536)) / 4294967296))) 127)
      = some ((M.sum:Nat):Int)
  | [y0,y1,y2,y3,y4,y5,y6,y7],V3,_,h,hV=>tail8 y0 y1 y2 y3 y4 y5 y6 y7 V3 (h y0 (by simp)) (h y1 (by simp)) (h y2 (by simp)) (h y3 (by simp)) (h y4 (by simp)) (h y5 (by simp)) (h y6 (by simp)) (h y7 (by simp)) hV
set_option maxHeartbeats 2000000 in
theorem ones_f (n:Nat)(hn:n < 18446744073709551616):bits_OnesCount64.f (n:Int)=some (popN 64 n:Int):=by
  obtain ⟨L,hL⟩:∃ L,bytes8 8 n=L:=⟨_,rfl⟩
  have hb:∀ b ∈ L,b < 256:=by rw [← hL]; exact bytes8_lt 8 n
  have hl:L.length=8:=by rw [← hL]; exact bytes8_len 8 n
  have hv:val8 L=n:=by rw [← hL]; exact bytes8_val 8 n (by rw [show (256:Nat) ^ 8=18446744073709551616 by decide]; exact hn)
  have hp:popN 64 n=(L.map (popN 8)).sum:=by rw [← hL]; exact pop_bytes 8 n
  have s1:=stage1 L hb
  have b1:∀ b ∈ L.map f1,b < 256:=by
    intro b hm
    obtain ⟨x,hx,rfl⟩ :=List.mem_map.1 hm
    exact (d5 ⟨x,hb x hx⟩).2.1
  have s2:=stage2 (L.map f1) b1
  have b2:∀ b ∈ (L.map f1).map f2,b < 69∧b % 16≤4:=by
    intro b hm
    obtain ⟨y,hy,rfl⟩ :=List.mem_map.1 hm
    obtain ⟨x,hx,rfl⟩ :=List.mem_map.1 hy
    exact ⟨(d5 ⟨x,hb x hx⟩).2.2.1,(d5 ⟨x,hb x hx⟩).2.2.2.1⟩
  obtain ⟨s3,-⟩ :=stage3 ((L.map f1).map f2) b2
  have v1:=val8_lt (L.map f1) b1
  have v2:=val8_lt ((L.map f1).map f2) (fun b hm=>by have:=(b2 b hm).1; omega)
  simp only [List.length_map,hl] at s1 s2 s3 v1 v2
  rw [show (256:Nat) ^ 8=18446744073709551616 by decide] at v1 v2
  rw [hv,show rep8 85 8=6148914691236517205 by decide] at s1
  rw [show rep8 51 8=3689348814741910323 by decide] at s2
  rw [show rep8 15 8=1085102592571150095 by decide] at s3
  obtain ⟨V1,hV1⟩:∃ V,val8 (L.map f1)=V:=⟨_,rfl⟩
  obtain ⟨V2,hV2⟩:∃ V,val8 ((L.map f1).map f2)=V:=⟨_,rfl⟩
  obtain ⟨V3,hV3⟩:∃ V,val8 (((L.map f1).map f2).map f3)=V:=⟨_,rfl⟩
  rw [hV1] at s1 s2 v1
  rw [hV2] at s2 s3 v2
  rw [hV3] at s3
  have hm3:(((L.map f1).map f2).map f3)=L.map (popN 8):=by
    rw [List.map_map,List.map_map]
    exact List.map_congr_left (fun x hx=>(d5 ⟨x,hb x hx⟩).1)
  rw [hm3] at hV3
  have small:V2 / 16+V2 < 18446744073709551616:=by rw [← hV2]; exact small_list ((L.map f1).map f2) (by rw [List.length_map,List.length_map]; exact hl) (fun b hm=>(b2 b hm).1)
  have t1:IntKind.u64.wrap ((Go.bits .and .u64 ((n:Int) / 2) 6148914691236517205)+(Go.bits .and .u64 (n:Int) 6148914691236517205))=(V1:Int):=by
    have e1:=and_u64 (n / 2) 6148914691236517205 (by omega) (by decide)
    have e2:=and_u64 n 6148914691236517205 hn (by decide)
    rw [show (n:Int) / 2=((n / 2:Nat):Int) by omega]
    rw [show (6148914691236517205:Int)=((6148914691236517205:Nat):Int) from rfl,e1,e2,u64_add _ _ (by omega),s1]
  have t2:IntKind.u64.wrap ((Go.bits .and .u64 ((V1:Int) / 4) 3689348814741910323)+(Go.bits .and .u64 (V1:Int) 3689348814741910323))=(V2:Int):=by
    have e1:=and_u64 (V1 / 4) 3689348814741910323 (by omega) (by decide)
    have e2:=and_u64 V1 3689348814741910323 v1 (by decide)
    rw [show (V1:Int) / 4=((V1 / 4:Nat):Int) by omega]
    rw [show (3689348814741910323:Int)=((3689348814741910323:Nat):Int) from rfl,e1,e2,u64_add _ _ (by omega),s2]
  have t3:Go.bits .and .u64 (IntKind.u64.wrap (((V2:Int) / 16)+(V2:Int))) 1085102592571150095=(V3:Int):=by
    rw [show (V2:Int) / 16=((V2 / 16:Nat):Int) by omega,u64_add _ _ small,show (1085102592571150095:Int)=((1085102592571150095:Nat):Int) from rfl,and_u64 _ _ small (by decide),s3]
  unfold bits_OnesCount64.f
  rw [t1,t2,t3]
  rw [hp]
  clear s1 s2 s3 v1 v2 t1 t2 t3 b1 b2 small hV1 hV2 hm3 hp hv hL
  exact tail_list (L.map (popN 8)) V3 (by rw [List.length_map]; exact hl) (fun b hm=>by obtain ⟨x,hx,rfl⟩ :=List.mem_map.1 hm; exact (d5 ⟨x,hb x hx⟩).2.2.2.2) hV3
theorem count_f (b:Int)(s:Bool)(hb:InU b):field_Count.f b s=some (popN 64 b.toNat:Int):=by
  obtain ⟨n,rfl,hn⟩ :=nat_of b hb
  unfold field_Count.f
  rw [ones_f n (by rw [show (2:Nat) ^ 64=18446744073709551616 by decide] at hn; exact hn)]
  rfl
def Nx.cnt (p:Nat→Bool):Nat→Nat→Nat
  | 0,_=>0
  | n+1,i=>(p i).toNat+Nx.cnt p n (i+1)
theorem Nx.cnt_add (p:Nat→Bool):∀ (m n i:Nat),Nx.cnt p (m+n) i=Nx.cnt p m i+Nx.cnt p n (i+m)
  | 0,n,i=>by simp [Nx.cnt]
  | m+1,n,i=>by
    rw [show m+1+n=(m+n)+1 by omega]
    simp only [Nx.cnt]
    rw [Nx.cnt_add p m n (i+1),show i+1+m=i+(m+1) by omega,Nat.add_assoc]
theorem Nx.cnt_le (p:Nat→Bool):∀ (n i:Nat),Nx.cnt p n i≤n
  | 0,_=>Nat.le_refl _
  | n+1,i=>by
    have:=Nx.cnt_le p n (i+1)
    simp only [Nx.cnt]
    cases p i
    · show 0+_≤_; omega
    · show 1+_≤_; omega
theorem Nx.cnt_zero {p:Nat→Bool}:∀ {n i:Nat},Nx.cnt p n i=0↔∀ j,i≤j→j < i+n→p j=false
  | 0,i=>⟨fun _ j h1 h2=>by omega,fun _=>rfl⟩
  | n+1,i=>by
    simp only [Nx.cnt]
    constructor
    · intro h j h1 h2
      by_cases e:j=i
      · subst e
        cases hp:p j with
        | false=>rfl
        | true=>rw [hp] at h; exact absurd h (by show ¬ (1+_=0); omega)
      · exact Nx.cnt_zero.1 (show Nx.cnt p n (i+1)=0 by omega) j (by omega) (by omega)
    · intro h
      rw [h i (Nat.le_refl _) (by omega),Nx.cnt_zero.2 (fun j h1 h2=>h j (by omega) (by omega))]
      rfl
theorem Nx.cnt_congr {p q:Nat→Bool}:∀ {n i:Nat},(∀ j,i≤j→j < i+n→p j=q j)→Nx.cnt p n i=Nx.cnt q n i
  | 0,_,_=>rfl
  | n+1,i,h=>by
    simp only [Nx.cnt]
    rw [h i (Nat.le_refl _) (by omega),Nx.cnt_congr (fun j h1 h2=>h j (by omega) (by omega))]
def Nx.count (ob:Bool)(p:Nat→Bool)(a b:Int):Int × Int:=
  if ob=true then (0,2) else if a < 0∨b < a∨541728000 < b then (0,1) else ((Nx.cnt p (b - a).toNat a.toNat:Nat),0)
theorem Nx.at_split (b0 b1 b2:Int)(s2:Bool)(b3 b4:Int)(s4:Bool)(t:Nat):Dy.at_ b0 b1 b2 s2 b3 b4 s4 (t:Int)=(Nx.dayB b2 s2 b3 b4 s4 ((t / 1440:Nat):Int) && Nx.timB b0 b1 (t % 1440)):=by
  have e1:(t:Int) / 1440=((t / 1440:Nat):Int):=by omega
  have e2:(t:Int) / 60 % 24=((t % 1440 / 60:Nat):Int):=by omega
  have e3:(t:Int) % 60=((t % 1440 % 60:Nat):Int):=by omega
  unfold Dy.at_ Nx.dayB Nx.timB
  rw [e1,e2,e3,Nx.has_nat b1 _ (by omega),Nx.has_nat b0 _ (by omega),Bool.and_assoc]
theorem Nx.count_is (p:Nat→Bool)(a b:Int)(h0:0≤a)(h1:a≤b)(h2:b≤541728000):Nx.count false p a b=(((Nx.cnt p (b - a).toNat a.toNat:Nat):Int),0):=by
  unfold Nx.count
  rw [if_neg (by decide),if_neg (by omega)]
theorem Nx.count_none (p:Nat→Bool)(a b:Int)(h0:0≤a)(h1:a≤b)(h2:b≤541728000)(h:∀ t:Nat,a≤t→(t:Int) < b→p t=false):Nx.count false p a b=(0,0):=by
  rw [Nx.count_is p a b h0 h1 h2,Nx.cnt_zero.2 (fun j q1 q2=>h j (by omega) (by omega))]
  rfl
/-! How many minutes match, by days and by months. -/
theorem Nx.cnt_day (dB:Nat→Bool)(tB:Nat→Bool)(D:Nat):∀ (k u:Nat),u+k≤1440→Nx.cnt (fun t=>dB (t / 1440) && tB (t % 1440)) k (D*1440+u)=if dB D=true then Nx.cnt tB k u else 0
  | 0,u,_=>by simp [Nx.cnt]
  | k+1,u,h=>by
    simp only [Nx.cnt]
    have e1:(D*1440+u) / 1440=D:=by omega
    have e2:(D*1440+u) % 1440=u:=by omega
    rw [show D*1440+u+1=D*1440+(u+1) by omega,Nx.cnt_day dB tB D k (u+1) (by omega),e1,e2]
    cases dB D with
    | true=>rw [if_pos rfl,if_pos rfl,Bool.true_and]
    | false=>rw [if_neg (by decide),if_neg (by decide),Bool.false_and]; rfl
theorem Nx.cnt_days' (dB:Nat→Bool)(tB:Nat→Bool)(W:Nat)(hW:∀ D,Nx.cnt (fun t=>dB (t / 1440) && tB (t % 1440)) 1440 (D*1440)=if dB D=true then W else 0):∀ (n D:Nat),Nx.cnt (fun t=>dB (t / 1440) && tB (t % 1440)) (n*1440) (D*1440)=Nx.cnt dB n D*W
  | 0,D=>by rw [Nat.zero_mul]; exact (Nat.zero_mul W).symm
  | n+1,D=>by
    have ih:=Nx.cnt_days' dB tB W hW n (D+1)
    rw [show (n+1)*1440=1440+n*1440 by omega,Nx.cnt_add,show D*1440+1440=(D+1)*1440 by omega,ih,hW D]
    show _=((dB D).toNat+Nx.cnt dB n (D+1))*W
    cases dB D with
    | true=>rw [if_pos rfl,Nat.add_mul]; show _=1*_+_; rw [Nat.one_mul]
    | false=>rw [if_neg (by decide),Nat.add_mul]; show _=0*_+_; rw [Nat.zero_mul]
/-- A month's days up to one, counted by its mask. -/
theorem Nx.cnt_mask {dB:Nat→Bool}{F L N:Nat}(hM:Nx.Mon dB F L N)(h0:N.testBit 0=false):∀ (k d:Nat),1≤d→d+k≤L+1→Nx.cnt (fun i=>N.testBit i) k d=Nx.cnt dB k (F+d - 1)
  | 0,_,_,_=>rfl
  | k+1,d,h1,h2=>by
    have hL:=hM.len
    have hb:=hM.bits d h1 (by omega)
    rw [decide_eq_true (by omega),Bool.true_and] at hb
    simp only [Nx.cnt]
    rw [hb,Nx.cnt_mask hM h0 k (d+1) (by omega) (by omega),show F+(d+1) - 1=F+d - 1+1 by omega]
/-- All of a mask. -/
theorem Nx.cnt_mask_all {dB:Nat→Bool}{F L N:Nat}(hM:Nx.Mon dB F L N)(h0:N.testBit 0=false)(hlt:N < 2 ^ 32)(K:Nat)(hK:32≤K):Nx.cnt (fun i=>N.testBit i) K 0=Nx.cnt dB L F:=by
  have hL:=hM.len
  have e:K=1+(L+(K - 1 - L)):=by omega
  rw [e,Nx.cnt_add,Nx.cnt_add]
  have z1:Nx.cnt (fun i=>N.testBit i) 1 0=0:=by simp [Nx.cnt,h0]
  have z2:Nx.cnt (fun i=>N.testBit i) (K - 1 - L) (0+1+L)=0:=by
    rw [Nx.cnt_zero]
    intro j q1 q2
    by_cases hj:j≤31
    · have:=hM.bits j (by omega) hj
      rw [decide_eq_false (by omega),Bool.false_and] at this
      exact this
    · exact Nat.testBit_lt_two_pow (Nat.lt_of_lt_of_le hlt (Nat.pow_le_pow_right (by decide) (by omega)))
  rw [z1,z2,Nx.cnt_mask hM h0 L (0+1) (by omega) (by omega),show F+(0+1) - 1=F by omega]
  omega
/-- The days below one. -/
theorem Nx.cnt_mask_low {dB:Nat→Bool}{F L N:Nat}(hM:Nx.Mon dB F L N)(h0:N.testBit 0=false)(c:Nat)(hc:1≤c)(hcL:c≤L+1)(K:Nat)(hK:c≤K):Nx.cnt (fun i=>(N % 2 ^ c).testBit i) K 0=Nx.cnt dB (c - 1) F:=by
  have e:K=1+((c - 1)+(K - c)):=by omega
  rw [e,Nx.cnt_add,Nx.cnt_add]
  have hm:∀ i,(N % 2 ^ c).testBit i=(decide (i < c) && N.testBit i):=fun i=>Nat.testBit_mod_two_pow N c i
  have z1:Nx.cnt (fun i=>(N % 2 ^ c).testBit i) 1 0=0:=by simp [Nx.cnt,hm,h0]
  have z2:Nx.cnt (fun i=>(N % 2 ^ c).testBit i) (K - c) (0+1+(c - 1))=0:=by
    rw [Nx.cnt_zero]
    intro j q1 q2
    show (N % 2 ^ c).testBit j=false
    rw [hm,decide_eq_false (by omega),Bool.false_and]
  have z3:Nx.cnt (fun i=>(N % 2 ^ c).testBit i) (c - 1) (0+1)=Nx.cnt (fun i=>N.testBit i) (c - 1) (0+1):=Nx.cnt_congr (fun j q1 q2=>by
    show (N % 2 ^ c).testBit j=N.testBit j
    rw [hm,decide_eq_true (by omega),Bool.true_and])
  rw [z1,z2,z3,Nx.cnt_mask hM h0 (c - 1) (0+1) (by omega) (by omega),show F+(0+1) - 1=F by omega]
  omega
/-! How many minutes match in the whole months ahead of one. -/
theorem Nx.num_le {y m y' m':Int}(h1:1≤m)(h2:m≤13)(h3:1≤m')(h4:m'≤12)(h:y < y'∨(y=y'∧m≤m')):Civ.num y m 1≤Civ.num y' m' 1:=by
  rcases h with h | ⟨rfl,h⟩
  · have e1:=Nx.num13 y
    have e2:Civ.num y m 1≤Civ.num y 13 1:=by
      unfold Civ.num
      have:=Civ.cum_mono y (show (m - 1).toNat≤((13:Int) - 1).toNat by omega)
      omega
    have e3:Civ.num (y+1) 1 1≤Civ.num y' 1 1:=by
      unfold Civ.num
      have:=Civ.dby_mono (show y+1≤y' by omega)
      rw [show ((1:Int) - 1).toNat=0 from rfl]
      simp only [Civ.cum]
      omega
    have e4:Civ.num y' 1 1≤Civ.num y' m' 1:=by
      unfold Civ.num
      have:=Civ.cum_mono y' (show ((1:Int) - 1).toNat≤(m' - 1).toNat by omega)
      omega
    omega
  · unfold Civ.num
    have:=Civ.cum_mono y (show (m - 1).toNat≤(m' - 1).toNat by omega)
    omega
theorem Nx.cnt_nil (p:Nat→Bool)(i:Nat):Nx.cnt p 0 i=0:=rfl
theorem Nx.mask0 (b2:Int)(s2:Bool)(b3 b4:Int)(s4:Bool)(y m:Int)(N:Nat)(h:Dy.mask false b2 s2 b3 b4 s4 y m=((N:Int),0)):N.testBit 0=false:=by
  obtain ⟨N',hN,-,-,hz⟩ :=mask_bits false b2 s2 b3 b4 s4 y m
  rw [h] at hN hz
  obtain rfl:N=N':=by exact Int.ofNat.inj hN
  obtain ⟨-,-,hb⟩ :=hz rfl
  rw [hb 0]
  simp
def Nx.pop (N:Nat):Nat:=Nx.cnt (fun i=>N.testBit i) 32 0
def Nx.sumTo (W:Nat)(yb mb:Int):List (Nat × Int × Int)→Nat
  | []=>0
  | x :: l=>if Civ.yr x.2.1 > yb∨(Civ.yr x.2.1=yb∧1+(Civ.mi x.2.1:Int)≥mb) then 0 else Nx.pop x.2.2.toNat*W+Nx.sumTo W yb mb l
theorem Nx.sum_spec {b0 b1 b2 : Int} {s2 : Bool} {b3 b4 : Int} {s4 : Bool} (W : Nat) (hW : ∀ D, Nx.cnt (fun t => Nx.dayB b2 s2 b3 b4 s4 ((t / 1440 : Nat) : Int) && Nx.timB b0 b1 (t % 1440)) 1440 (D * 1440) = if Nx.dayB b2 s2 b3 b4 s4 (D : Int) = true then W else 0) (yb mb : Int) (hb1 : 1970 ≤ yb) (hb2 : yb ≤ 2999) (hb3 : 1 ≤ mb) (hb4 : mb ≤ 12) :
    ∀ (f:Nat) (y m:Int) (n:Nat),1970≤y→y≤2999→1≤m→m≤13→(2999 - y)*12+(13 - m)+2≤f→
      Nx.sumTo W yb mb (Nx.mons (Dy.mask false b2 s2 b3 b4 s4) 1 f y m n)=Nx.cnt (fun t=>Nx.dayB b2 s2 b3 b4 s4 ((t / 1440:Nat):Int) && Nx.timB b0 b1 (t % 1440)) ((Civ.num yb mb 1 - Civ.num y m 1).toNat*1440) ((Civ.num y m 1).toNat*1440)
  | 0,y,m,n,_,_,_,_,hf=>by omega
  | f+1,y,m,n,h1,h2,h3,h4,hf=>by
    have hokb:Civ.ok yb mb 1:=by
      have:=Civ.len_ge (y:=yb) hb3 hb4
      unfold Civ.ok; omega
    have hbb:=Civ.num_bd hokb
    by_cases hend:y=2999∧m=13
    · obtain ⟨rfl,rfl⟩ :=hend
      rw [Nx.mons_step _ 1 f 2999 13 n (by omega) 3000 1 rfl rfl]
      have he:(Dy.mask false b2 s2 b3 b4 s4 3000 1).2=1:=by
        unfold Dy.mask
        rw [if_neg (by decide),show Civ.day 3000 1 1=(0,1) from by decide,if_pos (by decide)]
      rw [if_neg (by rw [he]; rintro ⟨q,_⟩; exact absurd q (by decide)),Nx.mons_end _ _ _ _ _ _ (by omega)]
      rw [show Civ.num 2999 13 1=376200 from by decide,show (Civ.num yb mb 1 - 376200).toNat=0 by omega,Nat.zero_mul,Nx.cnt_nil]
      rfl
    · obtain ⟨y', m', hy', hm', g1, g2, g3, g4, g5, g6⟩ : ∃ y' m' : Int, (if m < 1 ∨ 12 < m then y + 1 else y) = y' ∧ (if m < 1 ∨ 12 < m then (m + 11) % 12 + 1 else m) = m' ∧ 1970 ≤ y' ∧ y' ≤ 2999 ∧ 1 ≤ m' ∧ m' ≤ 12 ∧ Civ.num y m 1 = Civ.num y' m' 1 ∧ (2999 - y') * 12 + (13 - (m' + 1)) + 2 ≤ f := by
        by_cases h13:m=13
        · subst h13
          exact ⟨y+1,1,by rw [if_pos (by omega)],by rw [if_pos (by omega)]; rfl,by omega,by omega,by omega,by omega,Nx.num13 y,by omega⟩
        · exact ⟨y,m,by rw [if_neg (by omega)],by rw [if_neg (by omega)],h1,h2,h3,by omega,rfl,by omega⟩
      obtain ⟨F,L,N,hday,hlen,hmask,hL28,hF,hFL,hFL2,hM,hlt,hzero⟩ :=Nx.mon_of b2 s2 b3 b4 s4 g1 g2 g3 g4
      rw [Nx.mons_step _ 1 f y m n ⟨h1,h2⟩ y' m' hy' hm',hmask,hday]
      dsimp only
      have ih:=Nx.sum_spec (b0:=b0) (b1:=b1) W hW yb mb hb1 hb2 hb3 hb4 f y' (m'+1) (n+1) g1 g2 (by omega) (by omega) g6
      rw [← hFL] at ih
      rw [g5,← hF]
      have hok:Civ.ok y' m' 1:=by unfold Civ.ok; omega
      obtain ⟨ey,em⟩:Civ.yr (F:Int)=y'∧1+(Civ.mi (F:Int):Int)=m':=by
        have hb:=Civ.num_bd hok
        have e:=Civ.date_num hok
        rw [Civ.date_is hb.1 hb.2,← hF] at e
        injection e with e1 e
        injection e with e2 e
        exact ⟨e1,e2⟩
      have hpop:Nx.pop N=Nx.cnt (fun D=>Nx.dayB b2 s2 b3 b4 s4 (D:Int)) L F:=Nx.cnt_mask_all hM (Nx.mask0 b2 s2 b3 b4 s4 y' m' N hmask) hlt 32 (Nat.le_refl _)
      by_cases hge:y' > yb∨(y'=yb∧m'≥mb)
      · have hle:=Nx.num_le (y:=yb) (m:=mb) (y':=y') (m':=m') hb3 (by omega) g3 g4 (by omega)
        rw [← hF] at hle
        rw [show (Civ.num yb mb 1 - (F:Int)).toNat=0 by omega,Nat.zero_mul]
        rw [show (Civ.num yb mb 1 - ((F+L:Nat):Int)).toNat=0 by omega,Nat.zero_mul] at ih
        by_cases hN:N=0
        · rw [if_neg (by rintro ⟨_,q⟩; exact q (by rw [hN]; rfl)),ih]
          rw [Nx.cnt_nil,Nx.cnt_nil]
        · rw [if_pos ⟨rfl,by omega⟩]
          unfold Nx.sumTo
          dsimp only
          rw [ey,em,if_pos hge,Nx.cnt_nil]
      · have hle:=Nx.num_le (y:=y') (m:=m'+1) (y':=yb) (m':=mb) (by omega) (by omega) hb3 hb4 (by omega)
        rw [← hFL] at hle
        have hsplit:(Civ.num yb mb 1 - (F:Int)).toNat*1440=L*1440+(Civ.num yb mb 1 - ((F+L:Nat):Int)).toNat*1440:=by omega
        rw [hsplit,Nx.cnt_add,Int.toNat_natCast]
        rw [Int.toNat_natCast] at ih
        rw [← Nat.add_mul F L 1440,← ih,Nx.cnt_days' (fun D=>Nx.dayB b2 s2 b3 b4 s4 (D:Int)) (Nx.timB b0 b1) W hW L F,← hpop]
        by_cases hN:N=0
        · rw [if_neg (by rintro ⟨_,q⟩; exact q (by rw [hN]; rfl))]
          rw [show Nx.pop N=0 by rw [hN]; unfold Nx.pop; rw [Nx.cnt_zero]; intro j _ _; exact Nat.zero_testBit j]
          rw [Nat.zero_mul,Nat.zero_add]
        · rw [if_pos ⟨rfl,by omega⟩]
          conv=>lhs; unfold Nx.sumTo
          dsimp only
          rw [ey,em,if_neg hge,Int.toNat_natCast]
theorem Nx.hW_of (b0 b1 b2:Int)(s2:Bool)(b3 b4:Int)(s4:Bool)(W:Nat)(h:Nx.cnt (Nx.timB b0 b1) 1440 0=W)(D:Nat):Nx.cnt (fun t=>Nx.dayB b2 s2 b3 b4 s4 ((t / 1440:Nat):Int) && Nx.timB b0 b1 (t % 1440)) 1440 (D*1440)=if Nx.dayB b2 s2 b3 b4 s4 (D:Int)=true then W else 0:=by
  have:=Nx.cnt_day (fun D=>Nx.dayB b2 s2 b3 b4 s4 (D:Int)) (Nx.timB b0 b1) D 1440 0 (by omega)
  rw [Nat.add_zero,h] at this
  exact this
/-! How many match from the beginning of a minute's month up to it; and from one minute up to another one. -/
theorem Nx.up_is {dB tB : Nat → Bool} {W F L N : Nat} (hM : Nx.Mon dB F L N) (h0 : N.testBit 0 = false) (hW : ∀ D, Nx.cnt (fun t => dB (t / 1440) && tB (t % 1440)) 1440 (D * 1440) = if dB D = true then W else 0) (cd ct : Nat) (hc1 : 1 ≤ cd) (hc2 : cd ≤ L) (ht : ct < 1440) :
    Nx.pop (N % 2 ^ cd)*W+(if N.testBit cd=true then Nx.cnt tB ct 0 else 0)=Nx.cnt (fun t=>dB (t / 1440) && tB (t % 1440)) ((cd - 1)*1440+ct) (F*1440):=by
  have hL:=hM.len
  have hb:=hM.bits cd hc1 (by omega)
  rw [decide_eq_true hc2,Bool.true_and] at hb
  rw [Nx.cnt_add,Nx.cnt_days' dB tB W hW (cd - 1) F,← Nat.add_mul F (cd - 1) 1440]
  have h1:=Nx.cnt_mask_low hM h0 cd hc1 (by omega) 32 (by omega)
  have h2:=Nx.cnt_day dB tB (F+(cd - 1)) ct 0 (by omega)
  rw [Nat.add_zero] at h2
  rw [h2,hb,show F+cd - 1=F+(cd - 1) by omega]
  unfold Nx.pop
  rw [h1]
theorem Nx.total (p : Nat → Bool) (A B ua ub sa sb : Nat) (h1 : sa = A + ua) (h2 : sb = B + ub) (h3 : sa ≤ sb) (h4 : A ≤ B) :
    Nx.cnt p (sb+1 - sa) sa+Nx.cnt p ua A=Nx.cnt p (B - A) A+Nx.cnt p ub B+(p sb).toNat:=by
  have e1:Nx.cnt p (ua+(sb+1 - sa)) A=Nx.cnt p ua A+Nx.cnt p (sb+1 - sa) (A+ua):=Nx.cnt_add p ua (sb+1 - sa) A
  have e2:Nx.cnt p ((B - A)+(ub+1)) A=Nx.cnt p (B - A) A+Nx.cnt p (ub+1) (A+(B - A)):=Nx.cnt_add p (B - A) (ub+1) A
  have e3:Nx.cnt p (ub+1) B=Nx.cnt p ub B+Nx.cnt p 1 (B+ub):=Nx.cnt_add p ub 1 B
  have e4:Nx.cnt p 1 (B+ub)=(p sb).toNat:=by rw [h2]; rfl
  have e5:ua+(sb+1 - sa)=(B - A)+(ub+1):=by omega
  rw [e5,e2,← h1,show A+(B - A)=B by omega,e3,e4] at e1
  omega
/-- The months of two minutes lie as they do. -/
theorem Nx.mons_le {ya ma yb mb da db:Int}(ha:Civ.ok ya ma da)(hb:Civ.ok yb mb db)(h:Civ.num ya ma da≤Civ.num yb mb db):Civ.num ya ma 1≤Civ.num yb mb 1:=by
  obtain ⟨a1,a2,a3,a4,a5,a6⟩ :=ha
  obtain ⟨b1,b2,b3,b4,b5,b6⟩ :=hb
  by_cases c:ya < yb∨(ya=yb∧ma≤mb)
  · exact Nx.num_le a3 (by omega) b3 b4 c
  · have hle:=Nx.num_le (y:=yb) (m:=mb+1) (y':=ya) (m':=ma) (by omega) (by omega) a3 a4 (by omega)
    exfalso
    have hc:Civ.cum yb (mb+1 - 1).toNat=Civ.cum yb (mb - 1).toNat+Civ.len yb mb:=by
      obtain ⟨k,hk⟩:∃ k:Nat,mb=k+1:=⟨(mb - 1).toNat,by omega⟩
      subst hk
      rw [show ((k:Int)+1+1 - 1).toNat=k+1 by omega,show ((k:Int)+1 - 1).toNat=k by omega,Civ.cum_len]
    unfold Civ.num at h hle
    omega
theorem Nx.low_bits (x k:Nat)(hx:x < 2 ^ 64)(hk:k < 64):Go.bits .and .u64 (x:Int) (IntKind.u64.wrap (shl .u64 1 (k:Int) - 1))=((x % 2 ^ k:Nat):Int):=by
  have hp:=Nat.two_pow_pos k
  have hk2:2 ^ k < 2 ^ 64:=Nat.pow_lt_pow_right (by decide) hk
  rw [shl_one k hk,show ((2 ^ k:Nat):Int) - 1=((2 ^ k - 1:Nat):Int) by omega]
  have hw:IntKind.u64.wrap ((2 ^ k - 1:Nat):Int)=((2 ^ k - 1:Nat):Int):=by
    rw [u64w]; rw [show (2:Nat) ^ 64=18446744073709551616 by decide] at hk2; generalize 2 ^ k=P at hk2 hp; omega
  rw [hw,(bits_u64 x (2 ^ k - 1) hx (by omega)).1,Nat.and_two_pow_sub_one_eq_mod]
theorem Nx.w60 (h m:Nat)(h1:h < 1000)(h2:m < 1000):wrap64 (wrap64 ((h:Int)*60)+(m:Int))=((h*60+m:Nat):Int):=by
  have a:=Civ.w64 (x:=(h:Int)*60) (by omega) (by omega)
  have b:=Civ.w64 (x:=(h:Int)*60+m) (by omega) (by omega)
  exact (congrArg (fun z=>wrap64 (z+(m:Int))) a).trans (b.trans (by omega))
/-! How many times of a day, of a month and of a stretch match, as the program counts. -/
theorem Nx.cnt0 (p:Nat→Bool)(n i:Nat)(h:∀ j,i≤j→j < i+n→p j=false):Nx.cnt p n i=0:=Nx.cnt_zero.2 h
theorem Nx.popN_cnt (n:Nat):∀ (d v:Nat),popN d (n / 2 ^ v)=Nx.cnt (fun i=>n.testBit i) d v
  | 0,v=>rfl
  | d+1,v=>by
    unfold popN Nx.cnt
    have ht:n.testBit v=decide (n / 2 ^ v % 2=1):=Nat.testBit_eq_decide_div_mod_eq
    have hq:n / 2 ^ (v+1)=n / 2 ^ v / 2:=by rw [Nat.pow_succ,Nat.div_div_eq_div_mul]
    rw [← Nx.popN_cnt n d (v+1),hq,ht]
    generalize n / 2 ^ v=q
    by_cases h:q % 2=1
    · rw [decide_eq_true h,h]; rfl
    · rw [decide_eq_false h,show q % 2=0 by omega]; rfl
theorem Nx.popA_cnt (n:Nat):∀ (d v:Nat),Lib.popAux d (n / 2 ^ v)=Nx.cnt (fun i=>n.testBit i) d v
  | 0,v=>rfl
  | d+1,v=>by
    unfold Lib.popAux Nx.cnt
    have ht:n.testBit v=decide (n / 2 ^ v % 2=1):=Nat.testBit_eq_decide_div_mod_eq
    have hq:n / 2 ^ (v+1)=n / 2 ^ v / 2:=by rw [Nat.pow_succ,Nat.div_div_eq_div_mul]
    rw [← Nx.popA_cnt n d (v+1),hq,ht]
    generalize n / 2 ^ v=q
    by_cases h:q % 2=1
    · rw [decide_eq_true h,h]; rfl
    · rw [decide_eq_false h,show q % 2=0 by omega]; rfl
theorem Nx.ones_pop (n:Nat)(h:n < 2 ^ 32):Lib.onesCount n=Nx.pop n:=by
  have q:=Nx.popA_cnt n 64 0
  rw [Nat.pow_zero,Nat.div_one] at q
  unfold Lib.onesCount Nx.pop
  rw [q,show 64=32+32 from rfl,Nx.cnt_add,Nx.cnt0 _ 32 (0+32) (fun j h1 h2=>Nat.testBit_lt_two_pow (Nat.lt_of_lt_of_le h (Nat.pow_le_pow_right (by decide) (by omega)))),Nat.add_zero]
theorem Nx.popN_bits {b:Int}(hb:InU b)(L:Nat)(hL:L≤64)(h:∀ i,Nx.bit b i=true→i < L):popN 64 b.toNat=Nx.cnt (Nx.bit b) L 0:=by
  have q:=Nx.popN_cnt b.toNat 64 0
  rw [Nat.pow_zero,Nat.div_one] at q
  have e:Nx.cnt (Nx.bit b) 64 0=Nx.cnt (fun i=>b.toNat.testBit i) 64 0:=rfl
  rw [q,← e,show 64=L+(64 - L) by omega,Nx.cnt_add,Nx.cnt0 _ (64 - L) (0+L) (fun j h1 h2=>by
    cases hj:Nx.bit b j with
    | false=>rfl
    | true=>have:=h j hj; omega),Nat.add_zero]
theorem Nx.tim_hour (b0 b1:Int)(h:Nat):∀ (k u:Nat),u+k≤60→Nx.cnt (Nx.timB b0 b1) k (h*60+u)=if Nx.bit b1 h=true then Nx.cnt (Nx.bit b0) k u else 0
  | 0,u,_=>by simp [Nx.cnt]
  | k+1,u,hk=>by
    simp only [Nx.cnt]
    have e:Nx.timB b0 b1 (h*60+u)=(Nx.bit b1 h && Nx.bit b0 u):=by
      unfold Nx.timB
      rw [show (h*60+u) / 60=h by omega,show (h*60+u) % 60=u by omega]
    rw [show h*60+u+1=h*60+(u+1) by omega,Nx.tim_hour b0 b1 h k (u+1) (by omega),e]
    cases Nx.bit b1 h with
    | true=>rw [if_pos rfl,if_pos rfl,Bool.true_and]
    | false=>rw [if_neg (by decide),if_neg (by decide),Bool.false_and]; rfl
theorem Nx.tim_hours (b0 b1:Int):∀ (n h:Nat),Nx.cnt (Nx.timB b0 b1) (n*60) (h*60)=Nx.cnt (Nx.bit b1) n h*Nx.cnt (Nx.bit b0) 60 0
  | 0,h=>by rw [Nat.zero_mul]; exact (Nat.zero_mul _).symm
  | n+1,h=>by
    have ih:=Nx.tim_hours b0 b1 n (h+1)
    have e:=Nx.tim_hour b0 b1 h 60 0 (by omega)
    rw [Nat.add_zero] at e
    rw [show (n+1)*60=60+n*60 by omega,Nx.cnt_add,show h*60+60=(h+1)*60 by omega,ih,e]
    generalize Nx.cnt (Nx.bit b0) 60 0=W
    show _=((Nx.bit b1 h).toNat+Nx.cnt (Nx.bit b1) n (h+1))*W
    cases Nx.bit b1 h with
    | true=>rw [if_pos rfl,Nat.add_mul]; show _=1*_+_; rw [Nat.one_mul]
    | false=>rw [if_neg (by decide),Nat.add_mul]; show _=0*_+_; rw [Nat.zero_mul]
/-- How many times of a day match. -/
theorem Nx.day_count {b0 b1:Int}(h0:InU b0)(h1:InU b1)(hf:Nx.Fit b0 b1):Nx.cnt (Nx.timB b0 b1) 1440 0=popN 64 b1.toNat*popN 64 b0.toNat:=by
  have:=Nx.tim_hours b0 b1 24 0
  rw [show 24*60=1440 from rfl,Nat.zero_mul] at this
  rw [this,Nx.popN_bits h0 60 (by omega) hf.m60,Nx.popN_bits h1 24 (by omega) hf.h24]
theorem Nx.tim_none {b0 b1:Int}{v w:Nat}(h:∀ j,v≤j→j < w→Nx.bit b1 j=false):∀ (n i:Nat),v*60≤i→i+n≤w*60→Nx.cnt (Nx.timB b0 b1) n i=0:=by
  intro n i h1 h2
  refine Nx.cnt_zero.2 (fun j j1 j2=>?_)
  unfold Nx.timB
  rw [h (j / 60) (by omega) (by omega)]
  rfl
theorem Nx.low_ones (x k:Nat)(hx:x < 2 ^ 64)(hk:k < 64):popN 64 (x % 2 ^ k)=Nx.cnt (fun i=>x.testBit i) k 0:=by
  have q:=Nx.popN_cnt (x % 2 ^ k) 64 0
  rw [Nat.pow_zero,Nat.div_one] at q
  rw [q,show 64=k+(64 - k) by omega,Nx.cnt_add,Nx.cnt0 _ (64 - k) (0+k) (fun j h1 h2=>by rw [Nat.testBit_mod_two_pow,decide_eq_false (by omega)]; rfl),Nat.add_zero]
  exact Nx.cnt_congr (fun j h1 h2=>by rw [Nat.testBit_mod_two_pow,decide_eq_true (by omega)]; rfl)
theorem Nx.ahead_l {b0 b1 : Int} (s0 s1 : Bool) (b2 : Int) (s2 : Bool) (b3 : Int) (s3 : Bool) (b4 : Int) (s4 : Bool) (h0 : InU b0) (h1 : InU b1) (hf : Nx.Fit b0 b1) (t : Nat) (ht : t < 1440) :
    ∀ (e k v:Nat),64≤v+e→2*e+2≤k→next_ahead.l0 k (t:Int) ((Nx.cnt (Nx.timB b0 b1) (min t (v*60)) 0:Nat):Int) ((Nx.cnt (Nx.bit b0) 60 0:Nat):Int) (match Nx.fst b1 v with | some i=>((i:Int),true) | none=>(0,false)).1 (match Nx.fst b1 v with | some i=>((i:Int),true) | none=>((0:Int),false)).2 b0 s0 b1 s1 b2 s2 b3 s3 b4 s4=some ((Nx.cnt (Nx.timB b0 b1) t 0:Nat):Int):=by
  intro e
  induction e with
  | zero=>
    intro k v hv hk
    obtain ⟨k,rfl⟩:∃ j,k=j+1+1:=⟨k - 2,by omega⟩
    rw [show Nx.fst b1 v=none by unfold Nx.fst; rw [show 64 - v=0 by omega]; rfl]
    dsimp only
    rw [next_ahead.l0,if_neg (by decide),next_ahead.j1,if_neg (by decide),show min t (v*60)=t by omega]
  | succ e ih=>
    intro k v hv hk
    obtain ⟨k,rfl⟩:∃ j,k=j+1+1:=⟨k - 2,by omega⟩
    cases hh:Nx.fst b1 v with
    | none=>
      dsimp only
      rw [next_ahead.l0,if_neg (by decide),next_ahead.j1,if_neg (by decide)]
      congr 2
      by_cases c:t≤v*60
      · rw [show min t (v*60)=t by omega]
      · have q:=Nx.fst_none hh
        have e1:=Nx.cnt_add (Nx.timB b0 b1) (v*60) (t - v*60) 0
        rw [show v*60+(t - v*60)=t by omega,Nat.zero_add,Nx.tim_none (v:=v) (w:=64) q (t - v*60) (v*60) (by omega) (by omega),Nat.add_zero] at e1
        rw [show min t (v*60)=v*60 by omega,e1]
    | some h=>
      obtain ⟨q1,q2,q3,q4⟩ :=Nx.fst_some hh
      have h24:=hf.h24 h q3
      have hAv:Nx.cnt (Nx.timB b0 b1) (min t (v*60)) 0=Nx.cnt (Nx.timB b0 b1) (min t (h*60)) 0:=by
        have e1:min t (h*60)=min t (v*60)+(min t (h*60) - min t (v*60)):=by omega
        rw [e1,Nx.cnt_add,Nat.zero_add]
        by_cases c:t≤v*60
        · rw [show min t (h*60) - min t (v*60)=0 by omega,Nx.cnt_nil]; rfl
        · rw [Nx.tim_none (v:=v) (w:=h) q4 (min t (h*60) - min t (v*60)) (min t (v*60)) (by omega) (by omega)]; rfl
      have hle:=Nx.cnt_le (Nx.timB b0 b1) (min t (h*60)) 0
      rw [hAv]
      dsimp only
      rw [next_ahead.l0,if_pos rfl]
      rw [Civ.w64 (x:=(h:Int)*60) (by omega) (by omega)]
      by_cases c:h*60 < t
      · rw [decide_eq_true (show (h:Int)*60 < (t:Int) by omega),next_ahead.j1,if_pos rfl,Civ.w64 (x:=(h:Int)+1) (by omega) (by omega),Civ.w64 (x:=((h:Int)+1)*60) (by omega) (by omega),show (h:Int)+1=((h+1:Nat):Int) by omega,Nx.first_f b1 s1 h1]
        have hm:min t (h*60)=h*60:=by omega
        rw [hm] at hle ⊢
        by_cases c2:(h+1)*60≤t
        · rw [if_pos (show ((h+1:Nat):Int)*60≤(t:Int) by omega)]
          simp only [Option.bind_some]
          have hc:=Nx.cnt_le (Nx.bit b0) 60 0
          have hn:Nx.cnt (Nx.timB b0 b1) (min t ((h+1)*60)) 0=Nx.cnt (Nx.timB b0 b1) (h*60) 0+Nx.cnt (Nx.bit b0) 60 0:=by
            have e2:=Nx.tim_hour b0 b1 h 60 0 (by omega)
            rw [Nat.add_zero,if_pos q3] at e2
            rw [show min t ((h+1)*60)=h*60+60 by omega,Nx.cnt_add,Nat.zero_add,e2]
          have:=ih k (h+1) (by omega) (by omega)
          rw [hn] at this
          rw [Civ.w64 (by omega) (by omega),← this]
          congr 1
        · rw [if_neg (show ¬ ((h+1:Nat):Int)*60≤(t:Int) by omega)]
          have e1:Int.tmod (t:Int) 60=((t % 60:Nat):Int):=by rw [Int.tmod_eq_emod_of_nonneg (by omega)]; omega
          have hw:IntKind.u64.wrap ((t % 60:Nat):Int)=((t % 60:Nat):Int):=by rw [u64w]; omega
          obtain ⟨x,hx0,hx⟩ :=nat_of b0 h0
          have hlt:x % 2 ^ (t % 60) < 18446744073709551616:=Nat.lt_of_le_of_lt (Nat.mod_le _ _) hx
          rw [e1,hw,if_pos (by omega),hx0,Nx.low_bits x (t % 60) hx (by omega),ones_f _ hlt,Nx.low_ones x (t % 60) hx (by omega)]
          rw [← Nx.bit_nat x,← hx0]
          simp only [Option.bind_some]
          have hc:=Nx.cnt_le (Nx.bit b0) (t % 60) 0
          have hn:Nx.cnt (Nx.timB b0 b1) (min t ((h+1)*60)) 0=Nx.cnt (Nx.timB b0 b1) (h*60) 0+Nx.cnt (Nx.bit b0) (t % 60) 0:=by
            have e2:=Nx.tim_hour b0 b1 h (t % 60) 0 (by omega)
            rw [Nat.add_zero,if_pos q3] at e2
            rw [show min t ((h+1)*60)=h*60+t % 60 by omega,Nx.cnt_add,Nat.zero_add,e2]
          have:=ih k (h+1) (by omega) (by omega)
          rw [hn] at this
          rw [Civ.w64 (by omega) (by omega),← this]
          congr 1
      · rw [decide_eq_false (show ¬ (h:Int)*60 < (t:Int) by omega),next_ahead.j1,if_neg (by decide),show min t (h*60)=t by omega]
theorem Nx.ahead_f {b0 b1 : Int} (s0 s1 : Bool) (b2 : Int) (s2 : Bool) (b3 : Int) (s3 : Bool) (b4 : Int) (s4 : Bool) (h0 : InU b0) (h1 : InU b1) (hf : Nx.Fit b0 b1) (t : Nat) (ht : t < 1440) (k : Nat) (hk : 130 ≤ k) :
    next_ahead.f k b0 s0 b1 s1 b2 s2 b3 s3 b4 s4 (t:Int)=some ((Nx.cnt (Nx.timB b0 b1) t 0:Nat):Int):=by
  have this:=Nx.ahead_l s0 s1 b2 s2 b3 s3 b4 s4 h0 h1 hf t ht 64 k 0 (by omega) (by omega)
  rw [Nat.zero_mul,show min t 0=0 by omega,Nx.cnt_nil,show (((0:Nat)):Int)=0 from rfl] at this
  have e1:field_First.f b1 s1 0=some (match Nx.fst b1 0 with | some i=>((i:Int),true) | none=>(0,false)):=Nx.first_f b1 s1 h1 0
  unfold next_ahead.f
  rw [count_f b0 s0 h0,e1,Nx.popN_bits h0 60 (by omega) hf.m60,Option.bind_some,Option.bind_some]
  exact this
/-! Up to a minute; and the whole count. -/
theorem Nx.min_is {b0 : Int} {s0 : Bool} {b1 : Int} {s1 : Bool} {b2 : Int} {s2 : Bool} {b3 : Int} {s3 : Bool} {b4 : Int} {s4 : Bool} (h0 : InU b0) (h1 : InU b1) (A : day_odd.f b0 s0 b1 s1 b2 s2 b3 s3 b4 s4 = some false) (hf : Nx.Fit b0 b1) :
    day_Minutes.f b0 s0 b1 s1 b2 s2 b3 s3 b4 s4=some (((Nx.cnt (Nx.timB b0 b1) 1440 0:Nat):Int),0):=by
  have hle:=Nx.cnt_le (Nx.timB b0 b1) 1440 0
  rw [Nx.day_count h0 h1 hf] at hle ⊢
  unfold day_Minutes.f
  rw [A,count_f b1 s1 h1,count_f b0 s0 h0]
  simp only [Option.bind_some]
  rw [if_neg (by decide)]
  generalize popN 64 b1.toNat=P at hle ⊢
  generalize popN 64 b0.toNat=Q at hle ⊢
  rw [show (P:Int)*(Q:Int)=((P*Q:Nat):Int) by simp,Civ.w64 (by omega) (by omega)]
theorem Nx.cnt_eq (p:Nat→Bool){a b c d:Nat}(h:a=b)(h':c=d):Nx.cnt p a c=Nx.cnt p b d:=by rw [h,h']
theorem Nx.low32 (N cd:Nat)(hlt:N < 2 ^ 32)(hc:cd < 32):Go.bits .and .u32 (N:Int) ((shl .u32 1 (cd:Int) - 1) % 4294967296)=((N % 2 ^ cd:Nat):Int):=by
  have hp:=Nat.two_pow_pos cd
  have hk2:2 ^ cd < 2 ^ 32:=Nat.pow_lt_pow_right (by decide) hc
  have hk3:2 ^ cd < 4294967296:=hk2
  have hsh:shl .u32 1 (cd:Int)=((2 ^ cd:Nat):Int):=by
    unfold shl
    rw [show min ((cd:Int).toNat) (IntKind.bits .u32)=cd by simp [IntKind.bits]; omega,u32w,Int.one_mul]
    rw [show (2:Int) ^ cd=((2 ^ cd:Nat):Int) by simp]
    clear hk2
    generalize 2 ^ cd=Q at hk3
    omega
  rw [hsh]
  have hw2:(((2 ^ cd:Nat):Int) - 1) % 4294967296=((2 ^ cd - 1:Nat):Int):=by
    clear hk2 hsh
    generalize 2 ^ cd=Q at hk3 hp
    omega
  rw [hw2,(Dy.bits_u32 N (2 ^ cd - 1) hlt (by omega)).1,Nat.and_two_pow_sub_one_eq_mod]
theorem Nx.ones32 (n:Nat)(h:n < 2 ^ 32):bits_OnesCount32.f (n:Int)=some ((Nx.pop n:Nat):Int):=by
  unfold bits_OnesCount32.f
  have:n < 4294967296:=h
  rw [if_pos ⟨by omega,by omega⟩,Int.toNat_natCast,Nx.ones_pop _ h]
theorem Nx.tod (s:Nat):wrap64 (wrap64 ((s:Int) / 60 % 24*60)+(s:Int) % 60)=((s % 1440:Nat):Int):=by
  obtain ⟨h,hh⟩:∃ h:Nat,(s:Int) / 60 % 24=h:=⟨s / 60 % 24,by omega⟩
  obtain ⟨m,hm⟩:∃ m:Nat,(s:Int) % 60=m:=⟨s % 60,by omega⟩
  have e:h*60+m=s % 1440:=by omega
  rw [hh,hm,Nx.w60 h m (by omega) (by omega),e]
theorem Nx.w2 (a b c:Nat)(h:a+b=c)(hc:c≤1000000):wrap64 (wrap64 (a:Int)+(b:Int))=(c:Int):=by
  have e1:=Civ.w64 (x:=(a:Int)) (by omega) (by omega)
  have e2:=Civ.w64 (x:=(a:Int)+(b:Int)) (by omega) (by omega)
  exact (congrArg (fun z=>wrap64 (z+(b:Int))) e1).trans (e2.trans (by omega))
theorem Nx.w1 (a c:Nat)(h:a+0=c)(hc:c≤1000000):wrap64 (a:Int)=(c:Int):=(Civ.w64 (x:=(a:Int)) (by omega) (by omega)).trans (by omega)
theorem Nx.upTo_core {b0 : Int} {s0 : Bool} {b1 : Int} {s1 : Bool} {b2 : Int} {s2 : Bool} {b3 : Int} {s3 : Bool} {b4 : Int} {s4 : Bool} (h0 : InU b0) (h1 : InU b1) (h2 : InU b2) (h3 : InU b3) (h4 : InU b4) (A : day_odd.f b0 s0 b1 s1 b2 s2 b3 s3 b4 s4 = some false)
    {s:Nat} {y m:Int} {cd N:Nat} (hmask:Dy.mask false b2 s2 b3 b4 s4 y m=((N:Int),0)) (hlt:N < 2 ^ 32) (d1:1≤cd) (d2:cd≤31) (W TC AC:Nat) (hmin:day_Minutes.f b0 s0 b1 s1 b2 s2 b3 s3 b4 s4=some ((W:Int),0))
    (k:Nat) (hah:next_ahead.f k b0 s0 b1 s1 b2 s2 b3 s3 b4 s4 ((s % 1440:Nat):Int)=some (TC:Int)) (hup:Nx.pop (N % 2 ^ cd)*W+(if N.testBit cd=true then TC else 0)=AC) (hAC:AC≤100000) (w:Int) :
    next_upTo.f k b0 s0 b1 s1 b2 s2 b3 s3 b4 s4 y m (cd:Int) ((s:Int) / 60 % 24) ((s:Int) % 60) w=some (AC:Int):=by
  have hw:IntKind.u64.wrap (cd:Int)=(cd:Int):=by rw [u64w]; omega
  have hlo:=Nx.low32 N cd hlt (by omega)
  have hmlt:N % 2 ^ cd < 2 ^ 32:=Nat.lt_of_le_of_lt (Nat.mod_le _ _) hlt
  have hones:=Nx.ones32 _ hmlt
  have hb2:=bit32 N cd hlt (by omega)
  have hmul:((Nx.pop (N % 2 ^ cd):Nat):Int)*(W:Int)=((Nx.pop (N % 2 ^ cd)*W:Nat):Int):=by simp
  generalize Nx.pop (N % 2 ^ cd)*W=PW at hup hmul
  unfold next_upTo.f
  refine Option.bind_eq_some_iff.2 ⟨((N:Int),0),(mask_is h0 h1 h2 h3 h4 A y m).trans (congrArg some hmask),?_⟩
  refine Option.bind_eq_some_iff.2 ⟨((W:Int),0),hmin,?_⟩
  dsimp only
  rw [hw,if_pos (Int.natCast_nonneg cd),hlo,hb2]
  refine Option.bind_eq_some_iff.2 ⟨_,hones,?_⟩
  rw [hmul]
  by_cases hb:N.testBit cd=true
  · rw [if_pos hb] at hup
    rw [if_pos hb,if_pos rfl,Nx.tod s]
    exact Option.bind_eq_some_iff.2 ⟨_,hah,congrArg some (Nx.w2 PW TC AC hup (by omega))⟩
  · rw [if_neg hb] at hup
    rw [if_neg hb,if_neg (by decide)]
    exact congrArg some (Nx.w1 PW AC hup (by omega))
theorem Nx.upTo_f {b0 : Int} {s0 : Bool} {b1 : Int} {s1 : Bool} {b2 : Int} {s2 : Bool} {b3 : Int} {s3 : Bool} {b4 : Int} {s4 : Bool} (h0 : InU b0) (h1 : InU b1) (h2 : InU b2) (h3 : InU b3) (h4 : InU b4) (A : day_odd.f b0 s0 b1 s1 b2 s2 b3 s3 b4 s4 = some false) (hf : Nx.Fit b0 b1)
    {s:Nat} {y m:Int} {cd:Nat} (y1:1970≤y) (y2:y≤2999) (m1:1≤m) (m2:m≤12) (d1:1≤cd) (d2:(cd:Int)≤Civ.len y m) (w:Int) (k:Nat) (hk:130≤k) (X Y:Nat) (hX:(cd - 1)*1440+s % 1440=X) (hY:(Civ.num y m 1).toNat*1440=Y) :
    next_upTo.f k b0 s0 b1 s1 b2 s2 b3 s3 b4 s4 y m (cd:Int) ((s:Int) / 60 % 24) ((s:Int) % 60) w=some ((Nx.cnt (Nx.at2 b0 b1 b2 s2 b3 b4 s4) X Y:Nat):Int):=by
  obtain ⟨F,L,N,hday,hlen,hmask,hL28,hF,hFL,hFL2,hM,hlt,hzero⟩ :=Nx.mon_of b2 s2 b3 b4 s4 y1 y2 m1 m2
  have hL:=hM.len
  have hW:∀ D,Nx.cnt (Nx.at2 b0 b1 b2 s2 b3 b4 s4) 1440 (D*1440)=if Nx.dayB b2 s2 b3 b4 s4 (D:Int)=true then Nx.cnt (Nx.timB b0 b1) 1440 0 else 0:=fun D=>Nx.hW_of b0 b1 b2 s2 b3 b4 s4 _ rfl D
  have hup:=Nx.up_is (dB:=fun D=>Nx.dayB b2 s2 b3 b4 s4 (D:Int)) (tB:=Nx.timB b0 b1) hM (Nx.mask0 b2 s2 b3 b4 s4 y m N hmask) hW cd (s % 1440) d1 (by omega) (by omega)
  rw [← hF,Int.toNat_natCast] at hY
  have hup2:_=Nx.cnt (Nx.at2 b0 b1 b2 s2 b3 b4 s4) X Y:=hup.trans (congr (congrArg (Nx.cnt _) hX) hY)
  have hbd:=Nx.cnt_le (Nx.at2 b0 b1 b2 s2 b3 b4 s4) X Y
  exact Nx.upTo_core h0 h1 h2 h3 h4 A hmask hlt d1 (by omega) _ _ _ (Nx.min_is h0 h1 A hf) k (Nx.ahead_f s0 s1 b2 s2 b3 s3 b4 s4 h0 h1 hf _ (by omega) k hk) hup2 (Nat.le_trans hbd (by omega)) w
theorem Nx.sumW_to (W : Nat) (yb mb : Int) : ∀ (l : List (Nat × Int × Int)) (n : Int), (∀ x ∈ l, ∃ F N : Nat, x = (x.1, (F : Int), (N : Int)) ∧ F ≤ 376199 ∧ N < 2 ^ 32) → -1000000000000 ≤ n → n + (Nx.sumTo W yb mb l : Nat) ≤ 1000000000000 →
    Nx.sumW (W:Int) yb mb (l.map Nx.embF) n=n+(Nx.sumTo W yb mb l:Nat)
  | [],n,_,_,_=>(Int.add_zero n).symm
  | x :: l,n,hl,h1,h2=>by
    obtain ⟨F,N,hx,hF,hN⟩ :=hl x (List.mem_cons_self ..)
    have hN':N < 4294967296:=hN
    rw [hx] at h2 ⊢
    rw [List.map_cons]
    unfold Nx.sumTo at h2 ⊢
    unfold Nx.sumW
    have hs:Nx.stopC yb mb (Nx.embF (x.1,(F:Int),(N:Int)))=decide (Civ.yr (F:Int) > yb∨(Civ.yr (F:Int)=yb∧1+(Civ.mi (F:Int):Int)≥mb)):=by
      unfold Nx.stopC Nx.embF
      dsimp only
      rw [Civ.date_is (by omega) (by omega)]
      rw [Bool.eq_iff_iff]
      simp
    rw [hs]
    dsimp only at h2 ⊢
    by_cases c:Civ.yr (F:Int) > yb∨(Civ.yr (F:Int)=yb∧1+(Civ.mi (F:Int):Int)≥mb)
    · rw [if_pos (decide_eq_true c),if_pos c]
      simp
    · rw [if_neg c] at h2
      rw [if_neg (by rw [decide_eq_false c]; decide),if_neg c]
      have hv:(Fin.ofNat 4294967296 ((N:Int)).toNat).val=N:=by
        rw [Int.toNat_natCast]
        exact Nat.mod_eq_of_lt hN'
      have ha:Nx.addW (W:Int) n (Nx.embF (x.1,(F:Int),(N:Int)))=n+((Nx.pop N*W:Nat):Int):=by
        unfold Nx.addW Nx.embF
        dsimp only
        rw [hv,Nx.ones_pop N hN,show ((Nx.pop N:Nat):Int)*(W:Int)=((Nx.pop N*W:Nat):Int) by simp]
        rw [Int.toNat_natCast] at h2
        generalize Nx.pop N*W=PW at h2 ⊢
        rw [Civ.w64 (x:=(PW:Int)) (by omega) (by omega),Civ.w64 (by omega) (by omega)]
      rw [ha]
      rw [Int.toNat_natCast] at h2 ⊢
      rw [Nx.sumW_to W yb mb l (n+((Nx.pop N*W:Nat):Int)) (fun y hy=>hl y (List.mem_cons_of_mem _ hy)) (by omega) (by omega)]
      omega
theorem Nx.sub1440 (x y:Int)(h0:0≤x)(h:x≤y)(hy:y≤376199):(y - x).toNat*1440=y.toNat*1440 - x.toNat*1440∧x.toNat*1440≤y.toNat*1440∧y.toNat*1440 - x.toNat*1440≤600000000:=by omega
theorem Nx.lin1440 (s ca:Nat)(x L:Int)(h0:0≤x)(hc:1≤ca)(hl:(ca:Int)≤L)(hl2:L≤31)(h:(s:Int)=(x+ca - 1)*1440+((s % 1440:Nat):Int)):s=x.toNat*1440+((ca - 1)*1440+s % 1440)∧(ca - 1)*1440+s % 1440≤100000:=by omega
theorem Nx.count_core {b0 : Int} {s0 : Bool} {b1 : Int} {s1 : Bool} {b2 : Int} {s2 : Bool} {b3 : Int} {s3 : Bool} {b4 : Int} {s4 : Bool} (yb mb : Int) (W UB UA SM RES : Nat) (pb : Bool) (ML : List (Nat × Int × Int)) (hmem : ∀ x ∈ ML, ∃ F N : Nat, x = (x.1, (F : Int), (N : Int)) ∧ F ≤ 376199 ∧ N < 2 ^ 32)
    (hsum:Nx.sumTo W yb mb ML=SM) (htot:RES+UA=SM+UB+pb.toNat) (l1:UA≤100000) (l2:UB≤100000) (l3:SM≤600000000) :
    Nx.sumW (W:Int) yb mb (ML.map Nx.embF) (if pb=true then wrap64 (wrap64 ((UB:Int) - UA)+1) else wrap64 ((UB:Int) - UA))=(RES:Int):=by
  have w1:wrap64 ((UB:Int) - UA)=(UB:Int) - UA:=Civ.w64 (by omega) (by omega)
  have w2:wrap64 ((UB:Int) - UA+1)=(UB:Int) - UA+1:=Civ.w64 (by omega) (by omega)
  rw [w1]
  cases pb with
  | true=>
    rw [if_pos rfl,w2,Nx.sumW_to W yb mb ML _ hmem (by omega) (by omega),hsum]
    have:(true:Bool).toNat=1:=rfl
    omega
  | false=>
    rw [if_neg Bool.false_ne_true,Nx.sumW_to W yb mb ML _ hmem (by omega) (by omega),hsum]
    have:(false:Bool).toNat=0:=rfl
    omega
theorem Nx.count_is2 {b0 : Int} {s0 : Bool} {b1 : Int} {s1 : Bool} {b2 : Int} {s2 : Bool} {b3 : Int} {s3 : Bool} {b4 : Int} {s4 : Bool} (h0 : InU b0) (h1 : InU b1) (h2 : InU b2) (h3 : InU b3) (h4 : InU b4) {ob : Bool} (A : day_odd.f b0 s0 b1 s1 b2 s2 b3 s3 b4 s4 = some ob) (a c : Int) :
    next_Count.f b0 s0 b1 s1 b2 s2 b3 s3 b4 s4 a c=some (Nx.count ob (Nx.at2 b0 b1 b2 s2 b3 b4 s4) a c):=by
  unfold next_Count.f Nx.count
  rw [if_pos (okS_of h0 h1 h2 h3 h4),show next_odd.f b0 s0 b1 s1 b2 s2 b3 s3 b4 s4=some ob from A]
  simp only [Option.bind_some]
  cases ob with
  | true=>rw [if_pos rfl,if_pos rfl]
  | false=>
    rw [if_neg Bool.false_ne_true,if_neg Bool.false_ne_true]
    by_cases hl:a < 0∨c < a∨541728000 < c
    · rw [if_pos hl,if_pos hl]
    rw [if_neg hl,if_neg hl]
    by_cases he:a=c
    · rw [if_pos he,he,show (c - c).toNat=0 by omega]
      rfl
    rw [if_neg he]
    obtain ⟨ob',A',hq⟩ :=odd_is b0 s0 b1 s1 b2 s2 b3 s3 b4 s4
    rw [A] at A'
    obtain ⟨q0,q1,-⟩ :=hq (Option.some.inj A').symm
    have hf:=Nx.fit_of h0 h1 q0 q1
    obtain ⟨sa,rfl⟩:∃ sa:Nat,a=sa:=⟨a.toNat,by omega⟩
    obtain ⟨sb,hsb⟩:∃ sb:Nat,c - 1=sb:=⟨(c - 1).toNat,by omega⟩
    obtain ⟨ya,ma,ca,hofa,ya1,ya2,ma1,ma2,da1,da2,hsa,hna⟩ :=Nx.of_is (s:=sa) (by omega)
    obtain ⟨yb,mb,cb,hofb,yb1,yb2,mb1,mb2,db1,db2,hsb2,hnb⟩ :=Nx.of_is (s:=sb) (by omega)
    have oka:Civ.ok ya ma ca:=⟨ya1,ya2,ma1,ma2,by omega,da2⟩
    have okb:Civ.ok yb mb cb:=⟨yb1,yb2,mb1,mb2,by omega,db2⟩
    have oka1:Civ.ok ya ma 1:=⟨ya1,ya2,ma1,ma2,by omega,by omega⟩
    have okb1:Civ.ok yb mb 1:=⟨yb1,yb2,mb1,mb2,by omega,by omega⟩
    have hml:=Nx.mons_le oka okb (by rw [hna,hnb]; omega)
    have hba:=Civ.num_bd oka1
    have hbb:=Civ.num_bd okb1
    have hb31:=Civ.len_bd yb mb
    have ha31:=Civ.len_bd ya ma
    obtain ⟨XA,hXA⟩:∃ x,(ca - 1)*1440+sa % 1440=x:=⟨_,rfl⟩
    obtain ⟨XB,hXB⟩:∃ x,(cb - 1)*1440+sb % 1440=x:=⟨_,rfl⟩
    obtain ⟨YA,hYA⟩:∃ x,(Civ.num ya ma 1).toNat*1440=x:=⟨_,rfl⟩
    obtain ⟨YB,hYB⟩:∃ x,(Civ.num yb mb 1).toNat*1440=x:=⟨_,rfl⟩
    obtain ⟨e1,g4,g7⟩ :=Nx.sub1440 _ _ hba.1 hml hbb.2
    obtain ⟨g1,g5⟩ :=Nx.lin1440 sa ca _ _ hba.1 da1 da2 ha31.2 hsa
    obtain ⟨g2,g6⟩ :=Nx.lin1440 sb cb _ _ hbb.1 db1 db2 hb31.2 hsb2
    rw [hYA,hYB] at e1 g4 g7
    rw [hXA] at g1 g5
    rw [hXB] at g2 g6
    rw [hYA] at g1
    rw [hYB] at g2
    have g3:sa≤sb:=by clear hba hbb hml hna hnb hsa hsb2 e1 g4 g7 g1 g5 g2 g6 hXA hXB hYA hYB; omega
    have g8:(2999 - ya)*12+(13 - ma)+2≤((20000:Nat):Int):=by clear hba hbb hml hna hnb hsa hsb2 e1 g4 g7 g1 g5 g2 g6 hXA hXB hYA hYB; omega
    have g9:ma≤13:=Int.le_trans ma2 (by decide)
    have hc1:(c - (sa:Int)).toNat=sb+1 - sa:=by clear hba hbb hml hna hnb hsa hsb2 e1 g4 g7 g1 g5 g2 g6 hXA hXB hYA hYB; omega
    have g10:¬ ((sb:Int) < 0∨541727999 < (sb:Int)):=by clear hba hbb hml hna hnb hsa hsb2 e1 g4 g7 g1 g5 g2 g6 hXA hXB hYA hYB; omega
    have hsum:=Nx.sum_spec (b0:=b0) (b1:=b1) (b2:=b2) (s2:=s2) (b3:=b3) (b4:=b4) (s4:=s4) (Nx.cnt (Nx.timB b0 b1) 1440 0) (fun D=>Nx.hW_of b0 b1 b2 s2 b3 b4 s4 _ rfl D) yb mb yb1 yb2 mb1 mb2 20000 ya ma 0 ya1 ya2 ma1 g9 g8
    have e2:=Nx.cnt_eq (Nx.at2 b0 b1 b2 s2 b3 b4 s4) e1 hYA
    have hsum2:=hsum.trans e2
    have htot:=Nx.total (Nx.at2 b0 b1 b2 s2 b3 b4 s4) YA YB XA XB sa sb g1 g2 g3 g4
    have l1:=Nat.le_trans (Nx.cnt_le (Nx.at2 b0 b1 b2 s2 b3 b4 s4) XA YA) g5
    have l2:=Nat.le_trans (Nx.cnt_le (Nx.at2 b0 b1 b2 s2 b3 b4 s4) XB YB) g6
    have l3:=Nat.le_trans (Nx.cnt_le (Nx.at2 b0 b1 b2 s2 b3 b4 s4) (YB - YA) YA) g7
    have hcore:=Nx.count_core (b0:=b0) (s0:=s0) (b1:=b1) (s1:=s1) (b2:=b2) (s2:=s2) (b3:=b3) (s3:=s3) (b4:=b4) (s4:=s4) yb mb _ _ _ _ _ (Nx.at2 b0 b1 b2 s2 b3 b4 s4 sb) _ (Nx.mons_mem b2 s2 b3 b4 s4 1 20000 ya ma 0) hsum2 htot l1 l2 l3
    have hma:(Dy.match_ false b0 b1 b2 s2 b3 b4 s4 (sb:Int)).1=Nx.at2 b0 b1 b2 s2 b3 b4 s4 sb:=by
      unfold Dy.match_
      rw [if_neg Bool.false_ne_true,if_neg g10,Nx.at_split]
    rw [Nx.min_is h0 h1 A hf,hsb,hofa,hofb]
    dsimp only
    simp only [Option.bind_some]
    rw [Nx.upTo_f h0 h1 h2 h3 h4 A hf yb1 yb2 mb1 mb2 db1 db2 _ 1000 (by decide) XB YB hXB hYB,Nx.upTo_f h0 h1 h2 h3 h4 A hf ya1 ya2 ma1 ma2 da1 da2 _ 1000 (by decide) XA YA hXA hYA]
    simp only [Option.bind_some]
    rw [hma,hc1,Int.toNat_natCast]
    exact congrArg (fun z:Int=>some (z,(0:Int))) hcore
theorem Nx.mt (b0 b1 b2:Int)(s2:Bool)(b3 b4:Int)(s4:Bool)(t:Nat)(h:t < 541728000):Dy.match_ false b0 b1 b2 s2 b3 b4 s4 (t:Int)=(Nx.at2 b0 b1 b2 s2 b3 b4 s4 t,0):=by
  unfold Dy.match_
  rw [if_neg Bool.false_ne_true,if_neg (by omega),Nx.at_split]
/-- The ways of RearmCron, as plain numbers. -/
theorem Rea.cron_ways (b0 : Int) (s0 : Bool) (b1 : Int) (s1 : Bool) (b2 : Int) (s2 : Bool) (b3 : Int) (s3 : Bool) (b4 : Int) (s4 : Bool) (a d : Int) (h0 : InU b0) (h1 : InU b1) (h2 : InU b2) (h3 : InU b3) (h4 : InU b4) (ha : InU a) :
    (rearm_First.f 2 0 0 b0 s0 b1 s1 b2 s2 b3 s3 b4 s4 a d=some (0,2)∧∃ m ok,rearm_Minute.f a=some (m,ok))∨
    (rearm_First.f 2 0 0 b0 s0 b1 s1 b2 s2 b3 s3 b4 s4 a d=some (0,11)∧∃ m,rearm_Minute.f a=some (m,false))∨
    (rearm_First.f 2 0 0 b0 s0 b1 s1 b2 s2 b3 s3 b4 s4 a d=some (0,11)∧∃ m,rearm_Minute.f a=some (m,true)∧next_Count.f b0 s0 b1 s1 b2 s2 b3 s3 b4 s4 (wrap64 (m+1)) 541728000=some (0,0))∨
    (∃ t,rearm_First.f 2 0 0 b0 s0 b1 s1 b2 s2 b3 s3 b4 s4 a d=some (t,0)∧∃ m,rearm_Minute.f a=some (m,true)∧day_Match.f b0 s0 b1 s1 b2 s2 b3 s3 b4 s4 (wrap64 (IntKind.u64.wrap (Int.tdiv t 60)))=some (true,0)∧next_Count.f b0 s0 b1 s1 b2 s2 b3 s3 b4 s4 (wrap64 (m+1)) (wrap64 (IntKind.u64.wrap (Int.tdiv t 60)))=some (0,0)∧
      rearm_Again.f 2 0 0 b0 s0 b1 s1 b2 s2 b3 s3 b4 s4 a a=some (t,2,0,0,b0,s0,b1,s1,b2,s2,b3,s3,b4,s4,0,0)∧(Int.tmod t 60 == 0)=true∧decide (a < t)=true):=by
  obtain ⟨ha0,ha1⟩ :=ha
  obtain ⟨A,rfl⟩:∃ x:Nat,a=x:=⟨a.toNat,by omega⟩
  obtain ⟨m,e,hs,ho⟩ :=Rea.spec_chk b0 s0 b1 s1 b2 s2 b3 s3 b4 s4
  by_cases he:e=0
  case neg=>
    have hc:Rea.chk 2 0 0 (Rea.Z b0 s0 b1 s1 b2 s2 b3 s3 b4 s4) e=2:=by unfold Rea.chk; rw [if_neg (by decide),if_neg (by decide),if_pos rfl,if_pos ⟨rfl,rfl⟩,if_neg he]
    refine .inl ⟨?_,?_⟩
    · unfold rearm_First.f
      rw [show (100:Nat)=98+2 from rfl,Rea.chk_is hs,Option.bind_some,hc,if_pos (by decide)]
    · rw [Rea.minute_is A (by omega)]
      split
      · exact ⟨_,_,rfl⟩
      · exact ⟨_,_,rfl⟩
  subst he
  have hc:Rea.chk 2 0 0 (Rea.Z b0 s0 b1 s1 b2 s2 b3 s3 b4 s4) 0=0:=by unfold Rea.chk; rw [if_neg (by decide),if_neg (by decide),if_pos rfl,if_pos ⟨rfl,rfl⟩,if_pos rfl]
  have hm:=Rea.mat_is (k0:=2) (p:=0) (l:=0) h0 h1 h2 h3 h4 ho A (by omega)
  have hf:rearm_First.f 2 0 0 b0 s0 b1 s1 b2 s2 b3 s3 b4 s4 A d=some (Rea.mat false (Nx.at2 b0 b1 b2 s2 b3 b4 s4) A):=by
    unfold rearm_First.f
    rw [show (100:Nat)=98+2 from rfl,Rea.chk_is hs,Option.bind_some,hc,if_neg (by decide),if_neg (by decide),if_pos rfl]
    exact hm d
  have hw:∀ M:Nat,M≤541727999→wrap64 ((M:Int)+1)=(M:Int)+1:=fun M hM=>Civ.w64 (by omega) (by omega)
  have ho':day_odd.f b0 s0 b1 s1 b2 s2 b3 s3 b4 s4=some false:=ho
  rw [hf,Rea.minute_is A (by omega)]
  by_cases c:541727999 < A / 60
  · have hq:Rea.mat false (Nx.at2 b0 b1 b2 s2 b3 b4 s4) A=(0,11):=by unfold Rea.mat; rw [if_pos c]
    rw [hq,if_pos c]
    exact .inr (.inl ⟨rfl,_,rfl⟩)
  rw [if_neg c]
  rcases Nx.next_cases (Nx.at2 b0 b1 b2 s2 b3 b4 s4) ((A / 60:Nat):Int) (by omega) with ⟨r,e,q1,q2,q3,q4⟩ | ⟨e,q4⟩
  · have hq:Rea.mat false (Nx.at2 b0 b1 b2 s2 b3 b4 s4) A=((r:Int)*60,0):=by unfold Rea.mat; rw [if_neg c,e]
    have hcn:next_Count.f b0 s0 b1 s1 b2 s2 b3 s3 b4 s4 (((A / 60:Nat):Int)+1) (r:Int)=some (0,0):=by
      rw [Nx.count_is2 h0 h1 h2 h3 h4 ho',Nx.count_none _ _ _ (by omega) (by omega) (by omega) (fun z z1 z2=>q4 z (by omega) (by omega))]
    have hr:wrap64 (IntKind.u64.wrap (Int.tdiv ((r:Int)*60) 60))=(r:Int):=by
      rw [Int.mul_tdiv_cancel _ (by decide),Rea.u64n (by omega) (by omega),Civ.w64 (by omega) (by omega)]
    have hmt:day_Match.f b0 s0 b1 s1 b2 s2 b3 s3 b4 s4 (r:Int)=some (true,0):=by
      rw [match_is h0 h1 h2 h3 h4 ho',Nx.mt b0 b1 b2 s2 b3 b4 s4 r q2,q3]
    have hag:rearm_Again.f 2 0 0 b0 s0 b1 s1 b2 s2 b3 s3 b4 s4 A A=some ((r:Int)*60,2,0,0,b0,s0,b1,s1,b2,s2,b3,s3,b4,s4,0,0):=by
      unfold rearm_Again.f
      rw [show (100:Nat)=98+2 from rfl,Rea.chk_is hs,Option.bind_some,hc,if_neg (by decide),if_neg (by decide),if_neg (by decide),if_pos rfl]
      unfold rearm_plan_meets.f
      rw [hm 0]
      show (some (Rea.mat false (Nx.at2 b0 b1 b2 s2 b3 b4 s4) A)).bind _=_
      rw [hq,Option.bind_some,if_pos rfl]
    refine .inr (.inr (.inr ⟨(r:Int)*60,by rw [hq],_,rfl,by rw [hr]; exact hmt,by rw [hr,hw _ (by omega)]; exact hcn,hag,?_,decide_eq_true (by omega)⟩))
    rw [Int.mul_tmod_left]
    rfl
  · have hq:Rea.mat false (Nx.at2 b0 b1 b2 s2 b3 b4 s4) A=(0,11):=by unfold Rea.mat; rw [if_neg c,e]; rfl
    have hcn:next_Count.f b0 s0 b1 s1 b2 s2 b3 s3 b4 s4 (((A / 60:Nat):Int)+1) 541728000=some (0,0):=by
      rw [Nx.count_is2 h0 h1 h2 h3 h4 ho',Nx.count_none _ _ _ (by omega) (by omega) (by omega) (fun z z1 z2=>q4 z (by omega) (by omega))]
    exact .inr (.inr (.inl ⟨by rw [hq],_,rfl,by rw [hw _ (by omega)]; exact hcn⟩))
end Go.Proofs.YtepflnfnkfkldaaDoor.PRea
