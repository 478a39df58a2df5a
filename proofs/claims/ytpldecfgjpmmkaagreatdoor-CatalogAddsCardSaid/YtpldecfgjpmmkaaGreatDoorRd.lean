/- Several texts in one: Wi Rd RdE. -/
import Derived.Lib.Bytealg
section
/- The wire encoding in plain words: numbers as bytes. No program in sight. -/
namespace Go.Proofs.YtpldecfgjpmmkaaGreatDoor.Wi
def enc (n:Nat):List UInt8:=if n<128 then [UInt8.ofNat n] else UInt8.ofNat (n % 128+128)::enc (n / 128)
termination_by n
theorem enc_lt (n:Nat) (h:n<128):enc n=[UInt8.ofNat n]:=by rw[enc,if_pos h]
theorem enc_ge (n:Nat) (h:128≤n):enc n=UInt8.ofNat (n % 128+128)::enc (n / 128):=by rw[enc,if_neg (by omega)]
theorem enc_pos (n:Nat):1≤(enc n).length:=by
 rw[enc];split <;> simp
theorem enc_len:∀ (k n:Nat),n<2 ^ (7*(k+1))→(enc n).length≤k+1:=by
 intro k
 induction k with
 | zero=>intro n h;rw[enc_lt n (by simpa using h)];simp
 | succ k ih =>
   intro n h
   rcases Nat.lt_or_ge n 128 with h1 | h1
   · rw[enc_lt n h1];simp
   · rw[enc_ge n h1]
     have:=ih (n / 128) (by
      rw[show 7*(k+1+1)=7*(k+1)+7 by omega,Nat.pow_add] at h
      exact Nat.div_lt_of_lt_mul (by rw[Nat.mul_comm];exact h))
     simp;omega
def dec:Nat→Nat→List UInt8→Nat × Nat
 | _,_,[]=>(0,0)
 | i,a,b::r=>if 10≤i then (0,0) else if i=9∧1<b.toNat then (0,0) else if b.toNat<128 then (if b.toNat=0∧0<i then (0,0) else (a+b.toNat % 128*2 ^ (7*i),i+1)) else dec (i+1) (a+b.toNat % 128*2 ^ (7*i)) r
theorem u8_of (n:Nat) (h:n<256):(UInt8.ofNat n).toNat=n:=by rw[UInt8.toNat_ofNat'];omega
theorem dec_enc (r:List UInt8):∀ (k m i a:Nat),m<2 ^ (7*(k+1))→i+k≤9→(0<i→0<m)→(m*2 ^ (7*i)<2 ^ 64)→dec i a (enc m++r)=(a+m*2 ^ (7*i),i+(enc m).length):=by
 intro k
 induction k with
 | zero =>
   intro m i a h hi h0 hb
   have hm:m<128:=by simpa using h
   rw[enc_lt m hm,List.singleton_append,dec,u8_of m (by omega)]
   have h9:¬ (i=9∧1<m):=by
    rintro ⟨rfl,h1⟩
    have:2*2 ^ 63≤m*2 ^ (7*9):=Nat.mul_le_mul_right _ h1
    omega
   rw[if_neg (by omega),if_neg h9,if_pos hm,if_neg (by rintro ⟨rfl,h1⟩;exact absurd (h0 h1) (by omega)),Nat.mod_eq_of_lt hm]
   rfl
 | succ k ih =>
   intro m i a h hi h0 hb
   rcases Nat.lt_or_ge m 128 with hm | hm
   · rw[enc_lt m hm,List.singleton_append,dec,u8_of m (by omega)]
     have h9:¬ (i=9∧1<m):=by omega
     rw[if_neg (by omega),if_neg h9,if_pos hm,if_neg (by rintro ⟨rfl,h1⟩;exact absurd (h0 h1) (by omega)),Nat.mod_eq_of_lt hm]
     rfl
   · rw[enc_ge m hm,List.cons_append,dec,u8_of _ (by omega)]
     rw[if_neg (by omega),if_neg (by omega),if_neg (by omega)]
     have e:(m % 128+128) % 128=m % 128:=by omega
     have hd:m / 128<2 ^ (7*(k+1)):=by
      rw[show 7*(k+1+1)=7*(k+1)+7 by omega,Nat.pow_add] at h
      exact Nat.div_lt_of_lt_mul (by rw[Nat.mul_comm];exact h)
     have hp:2 ^ (7*(i+1))=128*2 ^ (7*i):=by
      rw[show 7*(i+1)=7+7*i by omega,Nat.pow_add]
     have hs:m / 128*2 ^ (7*(i+1))+m % 128*2 ^ (7*i)=m*2 ^ (7*i):=by
      rw[hp,← Nat.mul_assoc,← Nat.add_mul]
      congr 1;omega
     rw[e,ih (m / 128) (i+1) _ hd (by omega) (by omega) (by omega)]
     simp only[List.length_cons,Prod.mk.injEq]
     omega
theorem dec_enc0 (n:Nat) (r:List UInt8) (h:n<2 ^ 64):dec 0 0 (enc n++r)=(n,(enc n).length):=by
 have:=dec_enc r 9 n 0 0 (Nat.lt_of_lt_of_le h (Nat.pow_le_pow_right (by omega) (by omega))) (by omega) (by omega) (by omega)
 simpa using this
theorem dec_le:∀ (l:List UInt8) (i a:Nat),(dec i a l).2≤i+l.length∧(dec i a l).2≤10
 | [],i,a=>by simp [dec]
 | b::r,i,a=>by
   have ih:=dec_le r (i+1) (a+b.toNat % 128*2 ^ (7*i))
   rw[dec]
   split
   · simp
   · split
     · simp
     · split
       · split
         · simp
         · simp;omega
       · simp only[List.length_cons];omega
theorem dec_lt:∀ (l:List UInt8) (i a:Nat),a<2 ^ (7*i)→(dec i a l).1<2 ^ 64
 | [],i,a,_=>by simp [dec]
 | b::r,i,a,h=>by
   rw[dec]
   split
   · simp
   · rename_i h10
     split
     · simp
     · rename_i h9
       have hp:2 ^ (7*(i+1))=128*2 ^ (7*i):=by
        rw[show 7*(i+1)=7+7*i by omega,Nat.pow_add]
       have hb:a+b.toNat % 128*2 ^ (7*i)<2 ^ (7*(i+1)):=by
        rw[hp]
        have h1:b.toNat % 128≤127:=by omega
        have:=Nat.mul_le_mul_right (2 ^ (7*i)) h1
        omega
       split
       · split
         · simp
         · show a+b.toNat % 128*2 ^ (7*i)<2 ^ 64
           rcases (by omega:i≤8∨i=9) with hi | rfl
           · exact Nat.lt_of_lt_of_le hb (Nat.pow_le_pow_right (by omega) (by omega))
           · have h1:b.toNat % 128≤1:=by omega
             have:=Nat.mul_le_mul_right (2 ^ (7*9)) h1
             have e:(2:Nat) ^ 64=2 ^ (7*9)+2 ^ (7*9):=by decide
             omega
       · exact dec_lt r (i+1) _ hb
theorem or_add (n x k:Nat) (h:n<2 ^ k):n ||| (x*2 ^ k)=n+x*2 ^ k:=by
 rw[← Nat.shiftLeft_eq,Nat.or_comm,← Nat.shiftLeft_add_eq_or_of_lt h,Nat.add_comm]
end Go.Proofs.YtpldecfgjpmmkaaGreatDoor.Wi
end
section
/- The reader of the wire in plain words: its state is what is left, and its error. No program in sight. -/
namespace Go.Proofs.YtpldecfgjpmmkaaGreatDoor.Rd
open Wi
def num (s:List UInt8 × Nat):Nat × (List UInt8 × Nat) :=
 if s.2=0 then (if (dec 0 0 s.1).2=0 then ((dec 0 0 s.1).1,([],11)) else ((dec 0 0 s.1).1,(s.1.drop (dec 0 0 s.1).2,0))) else (0,s)
def boo (s:List UInt8 × Nat):Bool × (List UInt8 × Nat) :=
 if s.2=0 then (match s.1 with | []=>(false,([],11)) | b::r=>if 1<b.toNat then (false,([],11)) else (decide (b.toNat=1),(r,0))) else (false,s)
def cnt (m:Nat) (s:List UInt8 × Nat):Nat × (List UInt8 × Nat) :=
 if (num s).2.2=0 then (if m<(num s).1 then (0,([],8)) else num s) else (0,(num s).2)
def txt (m:Nat) (s:List UInt8 × Nat):List UInt8 × (List UInt8 × Nat) :=
 if (cnt m s).2.2=0 then (if (cnt m s).2.1.length<(cnt m s).1 then ([],([],11)) else ((cnt m s).2.1.take (cnt m s).1,((cnt m s).2.1.drop (cnt m s).1,0))) else ([],(cnt m s).2)
def fin (s:List UInt8 × Nat):Nat:=if s.2=0∧s.1≠[] then 11 else s.2
theorem num_bad (s:List UInt8 × Nat) (h:s.2≠0):num s=(0,s):=by unfold num;rw[if_neg h]
theorem num_none (s:List UInt8 × Nat) (h:s.2=0) (h0:(dec 0 0 s.1).2=0):num s=((dec 0 0 s.1).1,([],11)):=by unfold num;rw[if_pos h,if_pos h0]
theorem num_some (s:List UInt8 × Nat) (h:s.2=0) (h0:(dec 0 0 s.1).2≠0):num s=((dec 0 0 s.1).1,(s.1.drop (dec 0 0 s.1).2,0)):=by unfold num;rw[if_pos h,if_neg h0]
theorem num_lt (s:List UInt8 × Nat):(num s).1<2 ^ 64:=by
 have:=dec_lt s.1 0 0 (by decide)
 unfold num
 split
 · split <;> exact this
 · exact Nat.two_pow_pos 64
theorem num_len (s:List UInt8 × Nat):(num s).2.1.length≤s.1.length:=by
 unfold num
 split
 · split
   · simp
   · simp
 · simp
theorem boo_len (s:List UInt8 × Nat):(boo s).2.1.length≤s.1.length:=by
 unfold boo
 split
 · rcases s with ⟨_ | ⟨b,r⟩,e⟩
   · simp
   · simp only;split <;> simp
 · simp
theorem cnt_len (m:Nat) (s:List UInt8 × Nat):(cnt m s).2.1.length≤s.1.length:=by
 have:=num_len s
 unfold cnt
 split
 · split
   · simp
   · exact this
 · exact this
theorem cnt_le (m:Nat) (s:List UInt8 × Nat):(cnt m s).1≤m:=by
 unfold cnt
 split
 · split
   · simp
   · omega
 · simp
theorem txt_len (m:Nat) (s:List UInt8 × Nat):(txt m s).2.1.length≤s.1.length∧(txt m s).1.length≤m:=by
 have:=cnt_len m s
 have:=cnt_le m s
 unfold txt
 split
 · split
   · simp
   · simp;omega
 · simp;omega
end Go.Proofs.YtpldecfgjpmmkaaGreatDoor.Rd
end
section
/- What was written is read again, in plain words. No program in sight. -/
namespace Go.Proofs.YtpldecfgjpmmkaaGreatDoor.Rd
open Wi
theorem num_enc (n:Nat) (r:List UInt8) (h:n<2 ^ 64):num (enc n++r,0)=(n,(r,0)):=by
 have hd:=dec_enc0 n r h
 have hp:=enc_pos n
 rw[num_some _ rfl (by simp only[hd];omega)]
 simp only[hd,List.drop_left]
theorem boo_tb (y:Bool) (r:List UInt8):boo ((if y then 1 else 0)::r,0)=(y,(r,0)):=by
 cases y <;> rfl
theorem cnt_enc (m n:Nat) (r:List UInt8) (h:n≤m) (h2:n<2 ^ 64):cnt m (enc n++r,0)=(n,(r,0)):=by
 unfold cnt
 rw[num_enc n r h2]
 simp only
 rw[if_pos trivial,if_neg (by omega)]
theorem txt_enc (m:Nat) (s r:List UInt8) (h:s.length≤m) (h2:s.length<2 ^ 64):txt m (enc s.length++(s++r),0)=(s,(r,0)):=by
 unfold txt
 rw[cnt_enc m s.length (s++r) h h2]
 simp only
 rw[if_pos trivial,if_neg (by simp),List.take_left,List.drop_left]
end Go.Proofs.YtpldecfgjpmmkaaGreatDoor.Rd
end
