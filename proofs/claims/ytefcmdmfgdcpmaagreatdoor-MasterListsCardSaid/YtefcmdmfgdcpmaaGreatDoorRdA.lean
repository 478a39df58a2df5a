/- Catalogs. -/
import Derived.Test.YtefcmdmfgdcpmaaGreatDoorChecked
import Derived.Test.YtefcmdmfgdcpmaaGreatDoorKit
import Derived.Test.YtefcmdmfgdcpmaaGreatDoorDs
import Derived.Lib.SmallJoins
set_option maxRecDepth 4000
set_option maxHeartbeats 800000
namespace Go.Proofs.YtefcmdmfgdcpmaaGreatDoor.Wi
def enc(n:Nat):List UInt8:=if n<128 then [UInt8.ofNat n] else UInt8.ofNat (n % 128+128)::enc (n / 128)
termination_by n
theorem enc_lt(n:Nat)(h:n<128):enc n=[UInt8.ofNat n]:=by rw[enc,if_pos h]
theorem enc_ge(n:Nat)(h:128<=n):enc n=UInt8.ofNat (n % 128+128)::enc (n / 128):=by rw[enc,if_neg (by omega)]
theorem zrs(n:Nat):1<=(enc n).length:=by
 rw[enc];split <;> simp
theorem enc_len:∀ (k n:Nat),n<2 ^ (7*(k+1))->(enc n).length<=k+1:=by
 intro k
 induction k with
 | zero=>intro n h;rw[enc_lt n (by simpa using h)];simp
 | succ k ih =>
   intro n h;rcases Nat.lt_or_ge n 128 with h1|h1
   · rw[enc_lt n h1];simp
   · rw[enc_ge n h1]
     have:=ih (n / 128) (by
      rw[show 7*(k+1+1)=7*(k+1)+7 by omega,Nat.pow_add] at h;exact Nat.div_lt_of_lt_mul (by rw[Nat.mul_comm];exact h))
     simp;omega
def dec:Nat->Nat->List UInt8->Nat × Nat
 | _,_,[]=>(0,0)
 | i,a,b::r=>if 10<=i then (0,0) else if i=9∧1<b.toNat then (0,0) else if b.toNat<128 then (if b.toNat=0∧0<i then (0,0) else (a+b.toNat % 128*2 ^ (7*i),i+1)) else dec (i+1) (a+b.toNat % 128*2 ^ (7*i)) r
theorem u8_of(n:Nat)(h:n<256):(UInt8.ofNat n).toNat=n:=by rw[UInt8.toNat_ofNat'];omega
theorem zro(r:List UInt8):∀ (k m i a:Nat),m<2 ^ (7*(k+1))->i+k<=9->(0<i->0<m)->(m*2 ^ (7*i)<2 ^ 64)->dec i a (enc m++r)=(a+m*2 ^ (7*i),i+(enc m).length):=by
 intro k
 induction k with
 | zero =>
   intro m i a h hi h0 hb;have hm:m<128:=by simpa using h
   rw[enc_lt m hm,List.singleton_append,dec,u8_of m (by omega)]
   have h9:¬ (i=9∧1<m):=by
    rintro ⟨rfl,h1⟩;have:2*2 ^ 63<=m*2 ^ (7*9):=Nat.mul_le_mul_right _ h1;omega
   rw[if_neg (by omega),if_neg h9,if_pos hm,if_neg (by rintro ⟨rfl,h1⟩;exact absurd (h0 h1) (by omega)),Nat.mod_eq_of_lt hm];rfl
 | succ k ih =>
   intro m i a h hi h0 hb;rcases Nat.lt_or_ge m 128 with hm|hm
   · rw[enc_lt m hm,List.singleton_append,dec,u8_of m (by omega)];have h9:¬ (i=9∧1<m):=by omega
     rw[if_neg (by omega),if_neg h9,if_pos hm,if_neg (by rintro ⟨rfl,h1⟩;exact absurd (h0 h1) (by omega)),Nat.mod_eq_of_lt hm];rfl
   · rw[enc_ge m hm,List.cons_append,dec,u8_of _ (by omega)];rw[if_neg (by omega),if_neg (by omega),if_neg (by omega)];have e:(m % 128+128) % 128=m % 128:=by omega
     have hd:m / 128<2 ^ (7*(k+1)):=by
      rw[show 7*(k+1+1)=7*(k+1)+7 by omega,Nat.pow_add] at h;exact Nat.div_lt_of_lt_mul (by rw[Nat.mul_comm];exact h)
     have hp:2 ^ (7*(i+1))=128*2 ^ (7*i):=by
      rw[show 7*(i+1)=7+7*i by omega,Nat.pow_add]
     have hs:m / 128*2 ^ (7*(i+1))+m % 128*2 ^ (7*i)=m*2 ^ (7*i):=by
      rw[hp,<-Nat.mul_assoc,<-Nat.add_mul];congr 1;omega
     rw[e,ih (m / 128) (i+1) _ hd (by omega) (by omega) (by omega)];simp only[List.length_cons,Prod.mk.injEq]
     omega
theorem zn5(n:Nat)(r:List UInt8)(h:n<2 ^ 64):dec 0 0 (enc n++r)=(n,(enc n).length):=by
 have:=zro r 9 n 0 0 (Nat.lt_of_lt_of_le h (Nat.pow_le_pow_right (by omega) (by omega))) (by omega) (by omega) (by omega);simpa using this
theorem dec_le:∀ (l:List UInt8) (i a:Nat),(dec i a l).2<=i+l.length∧(dec i a l).2<=10
 | [],i,a=>by simp [dec]
 | b::r,i,a=>by
   have ih:=dec_le r (i+1) (a+b.toNat % 128*2 ^ (7*i));rw[dec];split
   · simp
   · split
     · simp
     · split
       · split
         · simp
         · simp;omega
       · simp only[List.length_cons];omega
theorem zpM:∀ (l:List UInt8) (i a:Nat),a<2 ^ (7*i)->(dec i a l).1<2 ^ 64
 | [],i,a,_=>by simp [dec]
 | b::r,i,a,h=>by
   rw[dec];split
   · simp
   · rename_i h10;split
     · simp
     · rename_i h9
       have hp:2 ^ (7*(i+1))=128*2 ^ (7*i):=by
        rw[show 7*(i+1)=7+7*i by omega,Nat.pow_add]
       have hb:a+b.toNat % 128*2 ^ (7*i)<2 ^ (7*(i+1)):=by
        rw[hp];have h1:b.toNat % 128<=127:=by omega
        have:=Nat.mul_le_mul_right (2 ^ (7*i)) h1;omega
       split
       · split
         · simp
         · show a+b.toNat % 128*2 ^ (7*i)<2 ^ 64
           rcases (by omega:i<=8∨i=9) with hi|rfl
           · exact Nat.lt_of_lt_of_le hb (Nat.pow_le_pow_right (by omega) (by omega))
           · have h1:b.toNat % 128<=1:=by omega
             have:=Nat.mul_le_mul_right (2 ^ (7*9)) h1;have e:(2:Nat) ^ 64=2 ^ (7*9)+2 ^ (7*9):=by decide
             omega
       · exact zpM r (i+1) _ hb
theorem or_add(n x k:Nat)(h:n<2 ^ k):n ||| (x*2 ^ k)=n+x*2 ^ k:=by
 rw[<-Nat.shiftLeft_eq,Nat.or_comm,<-Nat.shiftLeft_add_eq_or_of_lt h,Nat.add_comm]
end Go.Proofs.YtefcmdmfgdcpmaaGreatDoor.Wi
section
namespace Go.Proofs.YtefcmdmfgdcpmaaGreatDoor.Rd
open Wi
def num(s:List UInt8 × Nat):Nat × (List UInt8 × Nat) :=
 if s.2=0 then (if (dec 0 0 s.1).2=0 then ((dec 0 0 s.1).1,([],11)) else ((dec 0 0 s.1).1,(s.1.drop (dec 0 0 s.1).2,0))) else (0,s)
def boo(s:List UInt8 × Nat):Bool × (List UInt8 × Nat) :=
 if s.2=0 then (match s.1 with|[]=>(false,([],11))|b::r=>if 1<b.toNat then (false,([],11)) else (decide (b.toNat=1),(r,0))) else (false,s)
def cnt(m:Nat)(s:List UInt8 × Nat):Nat × (List UInt8 × Nat) :=
 if (num s).2.2=0 then (if m<(num s).1 then (0,([],8)) else num s) else (0,(num s).2)
def txt(m:Nat)(s:List UInt8 × Nat):List UInt8 × (List UInt8 × Nat) :=
 if (cnt m s).2.2=0 then (if (cnt m s).2.1.length<(cnt m s).1 then ([],([],11)) else ((cnt m s).2.1.take (cnt m s).1,((cnt m s).2.1.drop (cnt m s).1,0))) else ([],(cnt m s).2)
def fin(s:List UInt8 × Nat):Nat:=if s.2=0∧s.1≠[] then 11 else s.2
theorem num_bad(s:List UInt8 × Nat)(h:s.2≠0):num s=(0,s):=by unfold num;rw[if_neg h]
theorem num_none(s:List UInt8 × Nat)(h:s.2=0)(h0:(dec 0 0 s.1).2=0):num s=((dec 0 0 s.1).1,([],11)):=by unfold num;rw[if_pos h,if_pos h0]
theorem num_some(s:List UInt8 × Nat)(h:s.2=0)(h0:(dec 0 0 s.1).2≠0):num s=((dec 0 0 s.1).1,(s.1.drop (dec 0 0 s.1).2,0)):=by unfold num;rw[if_pos h,if_neg h0]
theorem num_lt(s:List UInt8 × Nat):(num s).1<2 ^ 64:=by
 have:=zpM s.1 0 0 (by decide);unfold num;split
 · split <;> exact this
 · exact Nat.two_pow_pos 64
theorem num_len(s:List UInt8 × Nat):(num s).2.1.length<=s.1.length:=by
 unfold num;split
 · split
   · simp
   · simp
 · simp
theorem boo_len(s:List UInt8 × Nat):(boo s).2.1.length<=s.1.length:=by
 unfold boo;split
 · rcases s with ⟨_|⟨b,r⟩,e⟩
   · simp
   · simp only;split <;> simp
 · simp
theorem cnt_len(m:Nat)(s:List UInt8 × Nat):(cnt m s).2.1.length<=s.1.length:=by
 have:=num_len s;unfold cnt;split
 · split
   · simp
   · exact this
 · exact this
theorem cnt_le(m:Nat)(s:List UInt8 × Nat):(cnt m s).1<=m:=by
 unfold cnt;split
 · split
   · simp
   · omega
 · simp
theorem txt_len(m:Nat)(s:List UInt8 × Nat):(txt m s).2.1.length<=s.1.length∧(txt m s).1.length<=m:=by
 have:=cnt_len m s;have:=cnt_le m s;unfold txt;split
 · split
   · simp
   · simp;omega
 · simp;omega
end Go.Proofs.YtefcmdmfgdcpmaaGreatDoor.Rd
end
section
namespace Go.Proofs.YtefcmdmfgdcpmaaGreatDoor.Rd
open Wi
theorem num_enc(n:Nat)(r:List UInt8)(h:n<2 ^ 64):num (enc n++r,0)=(n,(r,0)):=by
 have hd:=zn5 n r h;have hp:=zrs n;rw[num_some _ rfl (by simp only[hd];omega)];simp only[hd,List.drop_left]
theorem boo_tb(y:Bool)(r:List UInt8):boo ((if y then 1 else 0)::r,0)=(y,(r,0)):=by
 cases y <;> rfl
theorem cnt_enc(m n:Nat)(r:List UInt8)(h:n<=m)(h2:n<2 ^ 64):cnt m (enc n++r,0)=(n,(r,0)):=by
 unfold cnt;rw[num_enc n r h2];simp only
 rw[if_pos trivial,if_neg (by omega)]
theorem txt_enc(m:Nat)(s r:List UInt8)(h:s.length<=m)(h2:s.length<2 ^ 64):txt m (enc s.length++(s++r),0)=(s,(r,0)):=by
 unfold txt;rw[cnt_enc m s.length (s++r) h h2];simp only
 rw[if_pos trivial,if_neg (by simp),List.take_left,List.drop_left]
end Go.Proofs.YtefcmdmfgdcpmaaGreatDoor.Rd
end
namespace Go.Proofs.YtefcmdmfgdcpmaaGreatDoor
section
open Go.RowKit
def BY(w:World)(g:Nat)(f:Nat->UInt8):Prop:=(∀ j,j<10->w.cell? ⟨g,j,none⟩=some (.int .u8 (f j).toNat))∧(∀ o,w.frozen? ⟨g,o,none⟩=false)
theorem zuX(W:World)(g k:Nat)(hk:k<=9) :
  (Instr.sliceAt 250 (.pointer (some ⟨g,0,none⟩)) none (some (.int .i64 ((k:Int)+1))) none).run Tryz.prog W=.ok (.slice (some ⟨g,0,none⟩) (k+1) 10) W:=by
 have e:Tryz.prog.arrayLen 250=10:=by kernel_rfl
 have z:Tryz.prog.elem 250=5:=by kernel_rfl
 have ht:Tryz.prog.underlying 250=some (.array (Tryz.prog.arrayLen 250) (Tryz.prog.elem 250)):=by kernel_rfl
 rw[run_sliceAt_array_h W 250 ⟨g,0,none⟩ ht .i64 _ (by omega) (by rw[e];omega),e,z];simp [Tryz.sizeOf5,slicedAt,Addr.add]
theorem or128(m:Nat):bits .or .u8 ((m:Int) % 256) 128=((m % 128+128:Nat):Int):=by
 have h:=(bits_nat .u8 8 (by decide) wraps_u8 (m % 256) 128 (by omega) (by decide)).2;have e:((m:Int) % 256)=((m % 256:Nat):Int):=by simp
 rw[e];refine h.trans ?_
 have key:∀ x:Fin 256,x.val ||| 128=x.val % 128+128:=by decide
 have:=key ⟨m % 256,Nat.mod_lt _ (by decide)⟩;simp only at this
 rw[this];congr 2
 omega
theorem zku(W:World)(g cap:Nat)(l:List UInt8)(h:∀ j (hj:j<l.length),W.cell? ⟨g,j,none⟩=some (.int .u8 (l[j].toNat:Int))) :
  (convert 157 9 (.slice (some ⟨g,0,none⟩) l.length cap)).run Tryz.prog W=.ok (.string ⟨l.toArray⟩) W :=
 run_convert_bytes_back W 157 9 5 ⟨g,0,none⟩ cap l Tryz.underlying157 Tryz.underlying5 Tryz.underlying9 (fun j hj=>by
  have:=h j hj;rcases j with _|j <;> simpa [Addr.add] using this)
theorem BY.set{w:World}{g:Nat}{f:Nat->UInt8}(h:BY w g f)(k:Nat)(hk:k<10)(c:UInt8):BY (w.setCell ⟨g,k,none⟩ (.int .u8 c.toNat)) g (fun j=>if j=k then c else f j):=by
 refine⟨fun j hj=>?_,fun o=>by have:=h.2 o;simpa using this⟩
 have h1:=h.1 j hj;have h0:=h.1 k hk;by_cases e:j=k
 · subst e;simp [go_sem,h0]
 · show _=some (Value.int .u8 ((if j=k then c else f j:UInt8).toNat:Int))
   rw[if_neg e,<-h1];have e':k≠j:=fun h=>e h.symm
   have e'':(k==j)=false:=by simpa using e'
   simp [go_sem]
theorem zd2(f:Nat->UInt8)(k:Nat)(c:UInt8):(List.range (k+1)).map (fun j=>if j=k then c else f j)=(List.range k).map f++[c]:=by
 rw[List.range_succ,List.map_append];congr 1
 · apply List.map_congr_left
   intro j hj;have:j<k:=by simpa using hj
   rw[if_neg (by omega)]
 · simp
theorem k_le(n m k:Nat)(hm:1<=m)(h:m*128 ^ k<=n)(hn:n<18446744073709551616):k<=9:=by
 rcases Nat.lt_or_ge 9 k with h9|h9
 · have h1:128 ^ 10<=128 ^ k:=Nat.pow_le_pow_right (by decide) h9;have h2:1*128 ^ k<=m*128 ^ k:=Nat.mul_le_mul_right _ hm;have h3:(128:Nat) ^ 10=1180591620717411303424:=by decide
   omega
 · exact h9
theorem zvG(n m k:Nat)(hm:128<=m)(h:m*128 ^ k<=n)(hn:n<18446744073709551616):k<=8:=by
 have:=k_le n (m / 128) (k+1) (by omega) (Nat.le_trans (by rw[Nat.pow_succ,Nat.mul_comm (128 ^ k),<-Nat.mul_assoc];exact Nat.mul_le_mul_right _ (Nat.div_mul_le_self _ _)) h) hn;omega
theorem BY.new(w:World):BY (w.alloc (.cells #[.int .u8 0,.int .u8 0,.int .u8 0,.int .u8 0,.int .u8 0,.int .u8 0,.int .u8 0,.int .u8 0,.int .u8 0,.int .u8 0] 250)) w.heap.size (fun _=>0):=by
 refine⟨fun j hj=>?_,fun o=>by simp⟩
 rw[cell_of_row _ w.heap.size _ _ 250 (0,0) (heap_alloc_new w _)];rcases (by omega:j=0∨j=1∨j=2∨j=3∨j=4∨j=5∨j=6∨j=7∨j=8∨j=9) with rfl|rfl|rfl|rfl|rfl|rfl|rfl|rfl|rfl|rfl <;> rfl
theorem zpE(s:ByteArray)(n:Nat)(w:World)(hn:n<18446744073709551616)(hs:s.size<=10000) :
  Calls Tryz.prog 156 #[.string s,.int .u64 n] w fun e w'=>∃ t:ByteArray,e=.returned (.string t)∧Ds.bl t=Ds.bl s++Wi.enc n∧Below w.heap.size w w':=by
 have HN:=lh hn;clear hn;go_enter Tryz.func156,Tryz.ntmps156
 go_wp2_with fail
 go_loopw [1,6] (fun a i wr=>∃ (k m:Nat) (f:Nat->UInt8),i=.int .i64 k∧a=.int .u64 m∧m*128 ^ k<=n∧(0<k->0<m)∧Wi.enc n=(List.range k).map f++Wi.enc m∧BY wr w.heap.size f∧w.heap.size<wr.heap.size∧Below w.heap.size w wr) (fun a _ _=>(intOf a).toNat)
 case atStart=>exact⟨0,n,fun _=>0,rfl,rfl,by omega,by omega,rfl,BY.new w,by simp,by (repeat (first|exact Below.refl _ _|assumption|(refine Below.drew ?_)|(refine Below.alloc ?_ (by simp) _)|(refine Below.setCell ?_ (by simp) _)))⟩
 case round =>
  obtain⟨k,m,f,rfl,rfl,hle,hpos,he,hB,hlt,B⟩:=hrel;by_cases hm:128<=m
  · have hk:k<=8:=zvG n m k hm hle HN.out;have cz:=hB.1 k (by omega);have fz:=hB.2 k;have HE:=lh he;have ho:=or128 m;have HS:=lh (hB.set k (by omega) (UInt8.ofNat (m % 128+128)));have e8:(UInt8.ofNat (m % 128+128)).toNat=m % 128+128:=Wi.u8_of _ (by omega);have HE8:=lh e8;clear he e8 hB;go_wp2_with fail
    go_roundw
    case rel =>
     refine⟨k+1,m / 128,fun j=>if j=k then UInt8.ofNat (m % 128+128) else f j,by go_num,by go_num,?_,by omega,?_,?_,by simpa using hlt,B.setCell (by simp) _⟩
     · exact Nat.le_trans (by rw[Nat.pow_succ,Nat.mul_comm (128 ^ k),<-Nat.mul_assoc];exact Nat.mul_le_mul_right _ (Nat.div_mul_le_self _ _)) hle
     · rw[zd2,HE.out,Wi.enc_ge m hm,List.append_assoc];rfl
     · have:=HS.out;rw[HE8.out] at this;exact this
    case measure=>simp [intOf];omega
  · have hk:k<=9:=by
     rcases Nat.eq_zero_or_pos k with rfl|h0
     · omega
     · exact k_le n m k (hpos h0) hle HN.out
    have cz:=hB.1 k (by omega);have fz:=hB.2 k;have HE:=lh he;have hsl:=fun W=>zuX W w.heap.size k hk
    have e8:(UInt8.ofNat m).toNat=m:=Wi.u8_of _ (by omega);have HS:=hB.set k (by omega) (UInt8.ofNat m);rw[e8] at HS;have hlen:((List.range (k+1)).map (fun j=>if j=k then UInt8.ofNat m else f j)).length=k+1:=by simp
    have hcv:=zku (wr.setCell ⟨w.heap.size,k,none⟩ (.int .u8 m)) w.heap.size 10 ((List.range (k+1)).map (fun j=>if j=k then UInt8.ofNat m else f j)) (fun j hj=>by
     have hj':j<10:=by rw[hlen] at hj;omega
     rw[HS.1 j hj'];simp)
    rw[hlen,zd2] at hcv;have HL:=lh (show Wi.enc n=(List.range k).map f++[UInt8.ofNat m] by rw[HE.out,Wi.enc_lt m (by omega)]);have hl2:((List.range k).map f++[UInt8.ofNat m]).length<=10:=by simp;omega
    generalize (List.range k).map f++[UInt8.ofNat m]=L at hcv HL hl2;clear he hlen e8 HS hB;go_wp2_with fail
    go_ret
    exact⟨_,rfl,by simp [Ds.bl,HL.out],B.setCell (by simp) _⟩
end
section
open Go.RowKit
theorem zmb(a b k:Nat)(ha:a<2 ^ (7*k))(hb:b<256)(h:b % 128*2 ^ (7*k)+a<2 ^ 64) :
  bits .or .u64 (a:Int) (IntKind.u64.wrap (IntKind.u64.wrap (bits .and .u8 (b:Int) 127)*2 ^ (7*k)))=((a+b % 128*2 ^ (7*k):Nat):Int):=by
 have e:(2:Nat) ^ 64=18446744073709551616:=by decide
 rw[e] at h
 have h1:bits .and .u8 (b:Int) 127=((b % 128:Nat):Int):=by
  have:=bits_mask .u8 8 (by decide) wraps_u8 7 (by decide) (b:Int) (by omega) (by show (b:Int)<256;omega);refine this.trans ?_
  simp
 have h2:IntKind.u64.wrap ((b % 128:Nat):Int)=((b % 128:Nat):Int):=IntWalk.u64_in _ ⟨by omega,by omega⟩;have h3:((b % 128:Nat):Int)*2 ^ (7*k)=((b % 128*2 ^ (7*k):Nat):Int):=by push_cast;rfl
 have h4:IntKind.u64.wrap ((b % 128*2 ^ (7*k):Nat):Int)=((b % 128*2 ^ (7*k):Nat):Int):=IntWalk.u64_in _ ⟨by omega,by omega⟩;rw[h1,h2,h3,h4,bits_or_u64_nat _ _ (by omega) (by omega),Wi.or_add _ _ _ ha]
theorem fit8(a b k:Nat)(hk:k<=8)(ha:a<2 ^ (7*k)):b % 128*2 ^ (7*k)+a<2 ^ (7*(k+1))∧b % 128*2 ^ (7*k)+a<2 ^ 64:=by
 have hp:2 ^ (7*(k+1))=128*2 ^ (7*k):=by rw[show 7*(k+1)=7+7*k by omega,Nat.pow_add]
 have h1:b % 128<=127:=by omega
 have h2:=Nat.mul_le_mul_right (2 ^ (7*k)) h1;have h3:b % 128*2 ^ (7*k)+a<2 ^ (7*(k+1)):=by rw[hp];omega
 exact⟨h3,Nat.lt_of_lt_of_le h3 (Nat.pow_le_pow_right (by decide) (by omega))⟩
theorem fit9(a b:Nat)(hb:b<=1)(ha:a<2 ^ (7*9)):b % 128*2 ^ (7*9)+a<2 ^ 64:=by
 have h1:b % 128<=1:=by omega
 have h2:=Nat.mul_le_mul_right (2 ^ (7*9)) h1;have e:(2:Nat) ^ 64=2 ^ (7*9)+2 ^ (7*9):=by decide
 omega
theorem znC(s:ByteArray)(w:World)(hs:s.size<=10000) :
  Calls Tryz.prog 213 #[.string s] w fun e w'=>e=.returned (.tuple #[.int .u64 (Wi.dec 0 0 (Ds.bl s)).1,.int .i64 (Wi.dec 0 0 (Ds.bl s)).2])∧w=w':=by
 have HL:=lh (Ds.bl_length s);go_enter Tryz.func213,Tryz.ntmps213
 go_wp2_with fail
 go_loopw [4,5,6] (fun n i _ wr=>∃ k a:Nat,k<=s.size∧k<=10∧i=.int .i64 k∧n=.int .u64 a∧(k<=9->a<2 ^ (7*k))∧Wi.dec 0 0 (Ds.bl s)=Wi.dec k a ((Ds.bl s).drop k)∧w=wr) (fun _ i _ _=>10 - (intOf i).toNat)
 case atStart=>exact⟨0,0,by omega,by omega,rfl,rfl,by intro _;decide,rfl,rfl⟩
 case round =>
  obtain⟨k,a,hk,hk10,rfl,rfl,ha,hd,rfl⟩:=hrel;have HA:=lh ha;have HD:=lh hd;clear ha hd;by_cases h10:k<10
  · by_cases hlt:k<s.size
    · have hdr:(Ds.bl s).drop k=s[k]::(Ds.bl s).drop (k+1):=by
       rw[List.drop_eq_getElem_cons (by rw[HL.out];exact hlt),Ds.bl_get s k hlt]
      have hr:=HD.out.trans (by rw[hdr]);rw[Wi.dec,if_neg (by omega)] at hr;have hb:=s[k].toNat_lt;have ha:=HA.out (by omega);clear hdr;rcases (by omega:k<=8∨k=9) with hk8|rfl
      · obtain⟨f1,f2⟩:=fit8 a s[k].toNat k hk8 ha;have hor:=zmb a s[k].toNat k ha (by omega) f2;have F1:=lh (show a+s[k].toNat % 128*2 ^ (7*k)<2 ^ (7*(k+1)) by rw[Nat.add_comm];exact f1);have e9:((k:Int)==9)=false:=by simp;omega
        rw[if_neg (by omega)] at hr;clear ha f1 f2;by_cases h128:s[k].toNat<128
        · rw[if_pos h128] at hr;by_cases h0:s[k].toNat=0∧0<k
          · rw[if_pos h0] at hr;have HR:=lh hr;have e0:((s[k].toNat:Int)==0)=true:=by simp [h0.1]
            have k0:=h0.2;clear hr h0;go_wp2_with fail
            go_ret2
            exact⟨by rw[HR.out];rfl,rfl⟩
          · rw[if_neg h0] at hr;have HR:=lh hr;clear hr;rcases (by omega:s[k].toNat≠0∨k=0) with hz|rfl
            · have e0:((s[k].toNat:Int)==0)=false:=by simpa using hz
              clear h0 hz;go_wp2_with fail
              go_ret2
              exact⟨by rw[HR.out];rfl,rfl⟩
            · clear h0;have hor':bits .or .u64 (a:Int) (IntKind.u64.wrap (IntKind.u64.wrap (bits .and .u8 (s[0].toNat:Int) 127)))=((a+s[0].toNat % 128*2 ^ (7*0):Nat):Int):=by have:=hor;rw[show 7*0=0 from rfl,Int.pow_zero,Int.mul_one] at this;exact this
              have HV:=lh (show ((a:Int)+(s[0].toNat:Int) % 128)=((a+s[0].toNat % 128*2 ^ (7*0):Nat):Int) by simp);by_cases hz:s[0].toNat=0
              · have e0:((s[0].toNat:Int)==0)=true:=by simp [hz]
                clear hz;go_wp2_with fail
                go_ret2
                exact⟨by rw[HR.out];exact congrArg (fun x=>Ending.returned (.tuple #[.int .u64 x,.int .i64 1])) HV.out,rfl⟩
              · have e0:((s[0].toNat:Int)==0)=false:=by simpa using hz
                clear hz;go_wp2_with fail
                go_ret2
                exact⟨by rw[HR.out];exact congrArg (fun x=>Ending.returned (.tuple #[.int .u64 x,.int .i64 1])) HV.out,rfl⟩
        · rw[if_neg h128] at hr;have HR:=lh hr;have e0:((s[k].toNat:Int)==0)=false:=by simp;omega
          clear hr;go_wp2_with fail
          go_roundw
          case rel=>exact⟨k+1,_,by omega,by omega,by go_num,rfl,fun _=>F1.out,HR.out,trivial⟩
          case measure=>simp [intOf];omega
      · by_cases h1:1<s[9].toNat
        · rw[if_pos ⟨rfl,h1⟩] at hr;have HR:=lh hr;have e1:decide ((1:Int)<(s[9].toNat:Int))=true:=by simp;omega
          clear hr ha;go_wp2_with fail
          go_ret2
          exact⟨by rw[HR.out];rfl,rfl⟩
        · rw[if_neg (by omega),if_pos (by omega)] at hr;have hor:=zmb a s[9].toNat 9 ha (by omega) (fit9 a s[9].toNat (by omega) ha);have e1:decide ((1:Int)<(s[9].toNat:Int))=false:=by simp;omega
          rw[show ((2:Int) ^ (7*9))=9223372036854775808 by decide] at hor;have HOR:=lh hor;clear ha hor;by_cases h0:s[9].toNat=0
          · rw[if_pos ⟨h0,by omega⟩] at hr;have HR:=lh hr;have e0:((s[9].toNat:Int)==0)=true:=by simp [h0]
            clear hr h0;go_wp2_with fail
            go_ret2
            exact⟨by rw[HR.out];rfl,rfl⟩
          · rw[if_neg (by omega)] at hr;have HR:=lh hr;have e0:((s[9].toNat:Int)==0)=false:=by simpa using h0
            clear hr h0;go_wp2_with fail
            go_ret2
            exact⟨by rw[HR.out];exact congrArg (fun x=>Ending.returned (.tuple #[.int .u64 x,.int .i64 10])) HOR.out,rfl⟩
    · have hr:=HD.out.trans (by rw[List.drop_eq_nil_of_le (by rw[HL.out];omega),Wi.dec]);have HR:=lh hr;clear hr;go_wp2_with fail
      go_ret2
      exact⟨by rw[HR.out];rfl,rfl⟩
  · have hk0:k=10:=by omega
    subst hk0;have hr:=HD.out.trans (by rcases hx:(Ds.bl s).drop 10 with _|⟨b,r⟩ <;> rw[Wi.dec] <;> first|rfl|rw[if_pos (by omega)]);have HR:=lh hr;clear hr;go_wp2_with fail
    all_goals (go_ret2;exact⟨by rw[HR.out];rfl,rfl⟩)
end
section
open Go.RowKit
theorem zqU(s:ByteArray)(w:World)(hs:s.size<=10000) :
  Calls Tryz.prog 147 #[.string s,.bool true] w fun e w'=>∃ t:ByteArray,e=.returned (.string t)∧Ds.bl t=Ds.bl s++[1]∧w=w':=by
 go_enter Tryz.func147,Tryz.ntmps147
 go_wp2_with fail
 go_ret
 exact⟨_,rfl,by simp [Ds.bl],rfl⟩
theorem znR(s:ByteArray)(w:World)(hs:s.size<=10000) :
  Calls Tryz.prog 147 #[.string s,.bool false] w fun e w'=>∃ t:ByteArray,e=.returned (.string t)∧Ds.bl t=Ds.bl s++[0]∧w=w':=by
 go_enter Tryz.func147,Tryz.ntmps147
 go_wp2_with fail
 go_ret
 exact⟨_,rfl,by simp [Ds.bl],rfl⟩
theorem zqT(s t:ByteArray)(w:World)(hs:s.size<=10000)(ht:t.size<=10000) :
  Calls Tryz.prog 149 #[.string s,.string t] w fun e w'=>∃ u:ByteArray,e=.returned (.string u)∧Ds.bl u=Ds.bl s++(Wi.enc t.size++Ds.bl t)∧Below w.heap.size w w':=by
 have hu:IntKind.u64.wrap (t.size:Int)=(t.size:Int):=IntWalk.u64_in _ ⟨by omega,by omega⟩;have hn:=fun W=>zpE s t.size W (by omega) hs
 have hl:=fun u:ByteArray=>Ds.bl_length u
 have hE:=Wi.enc_len 1 t.size (by omega);have HE:=lh hE;have HL:=lh hl;clear hE hl;go_enter Tryz.func149,Tryz.ntmps149
 go_wp2_with fail
 (with_reducible refine (hn _).mono ?_)
 rintro _ w' ⟨u,rfl,hu',B⟩;have hsz:u.size<=10010:=by have:=congrArg List.length hu';rw[List.length_append,HL.out,HL.out] at this;have:=HE.out;omega
 have HU:=lh hu';clear hu';go_wp2_with fail
 go_ret
 exact⟨_,rfl,by have:=HU.out;simp only[Ds.bl] at this ⊢;simp [this],B⟩
def RD(w:World)(rb:Nat)(s:ByteArray)(e:Nat):Prop :=
 w.cell? ⟨rb,0,none⟩=some (.string s)∧w.cell? ⟨rb,1,none⟩=some (.int .i64 e)∧∀ o,w.frozen? ⟨rb,o,none⟩=false
theorem zaH(w:World)(a:Addr)(u:Value):w.grownBy (w.setCell a u) (some a.block) :=
 ⟨rfl,rfl,rfl,by simp,fun k _ h=>heap_setCell_other w a k u (fun e=>h (by rw[e]))⟩
theorem zgd(s:ByteArray)(w:World) :
  Calls Tryz.prog 31 #[.string s] w fun e w'=>e=.returned (.pointer (some ⟨w.heap.size,0,none⟩))∧w'=w.alloc (.cells #[.string s,.int .i64 0] 148):=by
 go_enter Tryz.func31,Tryz.ntmps31
 go_wp2_with fail
 go_ret
 exact⟨rfl,rfl⟩
theorem RD.new(s:ByteArray)(w:World):RD (w.alloc (.cells #[.string s,.int .i64 0] 148)) w.heap.size s 0:=by
 refine⟨?_,?_,fun o=>by simp⟩ <;> simp [go_sem]
theorem ze8(rb:Nat)(s:ByteArray)(e:Nat)(w:World)(h:RD w rb s 0) :
  Calls Tryz.prog 210 #[.pointer (some ⟨rb,0,none⟩),.int .i64 e] w fun r w'=>r=.returned (.tuple #[])∧RD w' rb ⟨#[]⟩ e∧w.grownBy w' (some rb):=by
 obtain⟨c0,c1,hf⟩:=h;have f0:=hf 0;have f1:=hf 1;go_enter Tryz.func210,Tryz.ntmps210
 go_wp2_with fail
 go_end0
 exact⟨rfl,⟨by simp [go_sem,c0],by simp [go_sem,c1],fun o=>by have:=hf o;simpa using this⟩,(zaH w ⟨rb,1,none⟩ _).trans (zaH _ ⟨rb,0,none⟩ _)⟩
theorem zm9(nb:Nat)(v:Value)(s:ByteArray)(w:World)(hs:s.size<=10000)(hn:w.cell? ⟨nb,0,none⟩=some v)(hf:w.frozen? ⟨nb,0,none⟩=false) :
  Calls Tryz.prog 212 #[.string s,.pointer (some ⟨nb,0,none⟩)] w fun e w'=>e=.returned (.int .i64 (Wi.dec 0 0 (Ds.bl s)).2)∧w'=w.setCell ⟨nb,0,none⟩ (.int .u64 (Wi.dec 0 0 (Ds.bl s)).1):=by
 have hd:=fun W=>znC s W hs
 generalize Wi.dec 0 0 (Ds.bl s)=d at hd ⊢;go_enter Tryz.func212,Tryz.ntmps212
 go_wp2_with ((with_reducible refine (hd _).mono ?_);rintro e w' ⟨rfl,rfl⟩)
 go_ret
 exact⟨rfl,rfl⟩
end
section
open Go.RowKit
theorem RD.other{w:World}{rb:Nat}{s:ByteArray}{e:Nat}(h:RD w rb s e)(nb:Nat)(hne:nb≠rb)(v:Value):RD (w.setCell ⟨nb,0,none⟩ v) rb s e:=by
 obtain⟨c0,c1,hf⟩:=h;refine⟨?_,?_,fun o=>?_⟩
 · rw[World.cell?_setCell_other _ _ _ _ (by intro h;cases h;exact hne rfl)];exact c0
 · rw[World.cell?_setCell_other _ _ _ _ (by intro h;cases h)];exact c1
 · have:=hf o;simpa using this
theorem RD.grown{w w':World}{rb:Nat}{s:ByteArray}{e:Nat}(h:RD w rb s e)(g:w.grownBy w' none)(hb:rb<w.heap.size):RD w' rb s e:=by
 have k:=g.block rb hb (by simp);exact⟨(World.cell?_of_block (a:=⟨rb,0,none⟩) k).trans h.1,(World.cell?_of_block (a:=⟨rb,1,none⟩) k).trans h.2.1,fun o=>(World.frozen?_of_block (a:=⟨rb,o,none⟩) k).trans (h.2.2 o)⟩
theorem RD.take{w:World}{rb:Nat}{s:ByteArray}{e:Nat}(h:RD w rb s e)(t:ByteArray):RD (w.setCell ⟨rb,0,none⟩ (.string t)) rb t e:=by
 obtain⟨c0,c1,hf⟩:=h;exact⟨by simp [go_sem,c0],by simp [go_sem,c1],fun o=>by have:=hf o;simpa using this⟩
theorem zo4(rb:Nat)(s:ByteArray)(w:World)(h:RD w rb s 0) :
  Calls Tryz.prog 210 #[.pointer (some ⟨rb,0,none⟩),.int .i64 8] w fun r w'=>r=.returned (.tuple #[])∧RD w' rb ⟨#[]⟩ 8∧w.grownBy w' (some rb):=ze8 rb s 8 w h
theorem zm8(rb:Nat)(s:ByteArray)(w:World)(h:RD w rb s 0) :
  Calls Tryz.prog 210 #[.pointer (some ⟨rb,0,none⟩),.int .i64 11] w fun r w'=>r=.returned (.tuple #[])∧RD w' rb ⟨#[]⟩ 11∧w.grownBy w' (some rb):=ze8 rb s 11 w h
theorem zfB(rb x:Nat)(f:Value)(s:ByteArray)(w:World)(hx:x≠0)(hR:RD w rb s x) :
  Calls Tryz.prog 207 #[.pointer (some ⟨rb,0,none⟩),f] w fun e w'=>e=.returned (.tuple #[])∧w=w':=by
 obtain⟨c0,c1,hf⟩:=hR;have e0:((x:Int)==0)=false:=by simpa using hx
 have e1:((x:Int) != 0)=true:=by simpa using hx
 clear hx;go_enter Tryz.func207,Tryz.ntmps207
 go_wp2_with fail
 exact bodyPost_ret (results_none rfl _ _ _) rfl ⟨rfl,rfl⟩
theorem zh3(rb nb x:Nat)(s:ByteArray)(v:Value)(w:World)(hs:s.size<=10000)(hd:Wi.dec 0 0 (Ds.bl s)=(x,0))(hR:RD w rb s 0)(hne:nb≠rb)(hn:w.cell? ⟨nb,0,none⟩=some v)(hf:w.frozen? ⟨nb,0,none⟩=false) :
  Calls Tryz.prog 207 #[.pointer (some ⟨rb,0,none⟩),.func (.func 212) #[] #[.pointer (some ⟨nb,0,none⟩)]] w fun e w'=>e=.returned (.tuple #[])∧RD w' rb ⟨#[]⟩ 11∧(w.setCell ⟨nb,0,none⟩ (.int .u64 x)).grownBy w' (some rb):=by
 have hc:=zm9 nb v s w hs hn hf;rw[hd] at hc;clear hd;have hR2:=hR.other nb hne (.int .u64 (x:Int));have hfl:=ze8 rb s 11 _ hR2;rw[show ((11:Nat):Int)=11 from rfl] at hfl;obtain⟨c0,c1,hf⟩:=hR;clear hR2;go_enter Tryz.func207,Tryz.ntmps207
 go_wp2_with (first|((with_reducible refine hc.mono ?_);rintro e w' ⟨rfl,rfl⟩)|((with_reducible refine hfl.mono ?_);rintro e w' ⟨rfl,hR',hG⟩))
 exact bodyPost_ret (results_none rfl _ _ _) rfl ⟨rfl,hR',hG⟩
theorem zi2(rb nb k x:Nat)(s:ByteArray)(v:Value)(w:World)(hs:s.size<=10000)(hd:Wi.dec 0 0 (Ds.bl s)=(x,k+1))(hk:k+1<=s.size)(hR:RD w rb s 0)(hne:nb≠rb)(hn:w.cell? ⟨nb,0,none⟩=some v)(hf:w.frozen? ⟨nb,0,none⟩=false) :
  Calls Tryz.prog 207 #[.pointer (some ⟨rb,0,none⟩),.func (.func 212) #[] #[.pointer (some ⟨nb,0,none⟩)]] w fun e w'=>e=.returned (.tuple #[])∧w'=(w.setCell ⟨nb,0,none⟩ (.int .u64 x)).setCell ⟨rb,0,none⟩ (.string (s.extract (k+1) s.size)):=by
 have hc:=zm9 nb v s w hs hn hf;rw[hd] at hc;clear hd;have hR2:=hR.other nb hne (.int .u64 (x:Int));obtain⟨c0,c1,hf⟩:=hR;obtain⟨d0,d1,hg⟩:=hR2;have g0:=hg 0;go_enter Tryz.func207,Tryz.ntmps207
 go_wp2_with ((with_reducible refine hc.mono ?_);rintro e w' ⟨rfl,rfl⟩)
 go_end0
 exact⟨rfl,rfl⟩
def RL(w:World)(rb:Nat)(s:List UInt8 × Nat):Prop:=∃ b:ByteArray,Ds.bl b=s.1∧RD w rb b s.2
theorem RL.grown{w w':World}{rb:Nat}{s:List UInt8 × Nat}(h:RL w rb s)(g:w.grownBy w' none)(hb:rb<w.heap.size):RL w' rb s:=by
 obtain⟨b,h1,h2⟩:=h;exact⟨b,h1,h2.grown g hb⟩
theorem RL.below{w w':World}{rb B:Nat}{s:List UInt8 × Nat}(h:RL w rb s)(g:Below B w w')(hb:rb<B):RL w' rb s:=by
 obtain⟨b,h1,h2⟩:=h;exact⟨b,h1,(g.cell (p:=⟨rb,0,none⟩) hb).trans h2.1,(g.cell (p:=⟨rb,1,none⟩) hb).trans h2.2.1,fun o=>(g.frozen (p:=⟨rb,o,none⟩) hb).trans (h2.2.2 o)⟩
theorem ziw(b:ByteArray)(k:Nat):Ds.bl (b.extract k b.size)=(Ds.bl b).drop k:=by
 unfold Ds.bl;rw[ByteArray.data_extract,Array.toList_extract,List.extract_eq_take_drop];exact List.take_of_length_le (by rw[List.length_drop,Array.length_toList];exact Nat.le_refl _)
theorem zqW(b:ByteArray)(k:Nat):Ds.bl (b.extract 0 k)=(Ds.bl b).take k:=by
 unfold Ds.bl;rw[ByteArray.data_extract,Array.toList_extract,List.extract_eq_take_drop,List.drop_zero,Nat.sub_zero]
theorem zh1(rb:Nat)(s:List UInt8 × Nat)(w:World)(hs:s.1.length<=10000)(hb:rb<w.heap.size)(hR:RL w rb s) :
  Calls Tryz.prog 157 #[.pointer (some ⟨rb,0,none⟩)] w fun e w'=>e=.returned (.int .u64 (Rd.num s).1)∧RL w' rb (Rd.num s).2∧w.grownBy w' (some rb):=by
 obtain⟨b,hbl,hR⟩:=hR;have hsz:b.size<=10000:=by rw[<-Ds.bl_length,hbl];exact hs
 have hR1:RD (w.alloc (.cells #[.int .u64 0] 191)) rb b s.2:=hR.grown (World.grownBy_alloc _ _ _) hb;by_cases h0:s.2=0
 · rw[h0] at hR hR1;rcases hd:Wi.dec 0 0 s.1 with ⟨x,k⟩
   cases k with
   | zero =>
     have hn:Rd.num s=(x,([],11)):=by rw[Rd.num_none s h0 (by rw[hd]),hd]
     rw[hn];have hc:=zh3 rb w.heap.size x b (.int .u64 0) (w.alloc (.cells #[.int .u64 0] 191)) hsz (by rw[hbl];exact hd) hR1 (by omega) (by simp [go_sem]) (by simp);clear hd hn hR1 h0;go_enter Tryz.func157,Tryz.ntmps157
     have hcl:∀ w',((w.alloc (.cells #[.int .u64 0] 191)).setCell ⟨w.heap.size,0,none⟩ (.int .u64 x)).grownBy w' (some rb)->w'.cell? ⟨w.heap.size,0,none⟩=some (.int .u64 x):=fun w' hG=>by
      rw[World.cell?_of_block (a:=⟨w.heap.size,0,none⟩) (hG.block w.heap.size (by simp) (by simp;omega))];simp [go_sem]
     have HC:=lh hcl;clear hcl;go_wp2_with ((with_reducible refine hc.mono ?_);rintro e w' ⟨rfl,hR',hG⟩;have hcell:=HC.out w' hG;have HG:=lh hG;clear hG)
     go_ret
     refine⟨rfl,⟨_,rfl,hR'⟩,?_⟩
     have hG:=HG.out;have e:(w.alloc (.cells #[.int .u64 0] 191)).setCell ⟨w.heap.size,0,none⟩ (.int .u64 x)=w.alloc (.cells #[.int .u64 x] 191):=by simp [go_sem]
     rw[e] at hG;exact (World.grownBy_alloc _ _ _).trans hG
   | succ k =>
     have hkl:k+1<=b.size:=by
      have:=(Wi.dec_le s.1 0 0).1;rw[hd] at this;rw[<-Ds.bl_length,hbl];omega
     have hn:Rd.num s=(x,(s.1.drop (k+1),0)):=by rw[Rd.num_some s h0 (by rw[hd];simp),hd]
     rw[hn];have hc:=zi2 rb w.heap.size k x b (.int .u64 0) (w.alloc (.cells #[.int .u64 0] 191)) hsz (by rw[hbl];exact hd) hkl hR1 (by omega) (by simp [go_sem]) (by simp);have hR2:=hR1.other w.heap.size (by omega) (.int .u64 (x:Int));have HB:=lh hR2;have d0:=hR2.1;have HBL:=lh hbl;clear hd hR1 hR2 hn h0 hbl;go_enter Tryz.func157,Tryz.ntmps157
     go_wp2_with ((with_reducible refine hc.mono ?_);rintro e w' ⟨rfl,rfl⟩)
     go_ret
     exact⟨rfl,⟨_,by rw[ziw,HBL.out],(hR.take _).grown (World.grownBy_alloc _ _ _) (by simpa using hb)⟩,(zaH w ⟨rb,0,none⟩ _).trans (World.grownBy_alloc _ _ _)⟩
 · rw[Rd.num_bad s h0];have hc:=zfB rb s.2 (.func (.func 212) #[] #[.pointer (some ⟨w.heap.size,0,none⟩)]) b (w.alloc (.cells #[.int .u64 0] 191)) h0 hR1;have HB:=lh hR;have HBL:=lh hbl;clear h0 hR1 hR hbl;go_enter Tryz.func157,Tryz.ntmps157
   go_wp2_with ((with_reducible refine hc.mono ?_);rintro e w' ⟨rfl,rfl⟩)
   go_ret
   exact⟨rfl,⟨b,HBL.out,HB.out.grown (World.grownBy_alloc _ _ _) hb⟩,World.grownBy_alloc _ _ _⟩
end
section
open Go.RowKit
theorem zbH(s:ByteArray)(h0:0<s.size):s.toList.isEmpty=false:=by
 have h:=Ds.bl_length s;rw[Lib.toList_data];rcases hl:s.data.toList with _|⟨c,r⟩
 · rw[show Ds.bl s=s.data.toList from rfl,hl] at h;simp at h;omega
 · rfl
theorem zb7(s:ByteArray)(h0:s.size=0):s.toList.isEmpty=true:=by
 have h:=Ds.bl_length s;rw[Lib.toList_data];rcases hl:s.data.toList with _|⟨c,r⟩
 · rfl
 · rw[show Ds.bl s=s.data.toList from rfl,hl] at h;simp at h;omega
theorem zo2(nb:Nat)(v:Value)(s:ByteArray)(y:Bool)(w:World)(h0:0<s.size)(hy:s[0].toNat=y.toNat)(hn:w.cell? ⟨nb,0,none⟩=some v)(hf:w.frozen? ⟨nb,0,none⟩=false) :
  Calls Tryz.prog 208 #[.string s,.pointer (some ⟨nb,0,none⟩)] w fun e w'=>e=.returned (.int .i64 1)∧w'=w.setCell ⟨nb,0,none⟩ (.bool y):=by
 have e1:decide ((1:Int)<(s[0].toNat:Int))=false:=by cases y <;> simp [hy]
 have e2:((s[0].toNat:Int)==1)=y:=by cases y <;> simp [hy]
 have e3:s.toList.isEmpty=false:=zbH s h0;clear hy;go_enter Tryz.func208,Tryz.ntmps208
 go_wp2_with fail
 go_ret
 exact⟨rfl,rfl⟩
theorem zo1(nb:Nat)(s:ByteArray)(w:World)(hy:s.size=0∨∃ h0:0<s.size,1<s[0].toNat) :
  Calls Tryz.prog 208 #[.string s,.pointer (some ⟨nb,0,none⟩)] w fun e w'=>e=.returned (.int .i64 0)∧w=w':=by
 rcases hy with h0|⟨h0,hy⟩
 · have e3:s.toList.isEmpty=true:=zb7 s h0;clear h0;go_enter Tryz.func208,Tryz.ntmps208
   go_wp2_with fail
   go_ret
   exact⟨rfl,rfl⟩
 · have e3:s.toList.isEmpty=false:=zbH s h0;have e1:decide ((1:Int)<(s[0].toNat:Int))=true:=by simp;omega
   go_enter Tryz.func208,Tryz.ntmps208
   go_wp2_with fail
   go_ret
   exact⟨rfl,rfl⟩
theorem zh2(rb nb:Nat)(s:ByteArray)(y:Bool)(v:Value)(w:World)(h0:0<s.size)(hy:s[0].toNat=y.toNat)(hR:RD w rb s 0)(hne:nb≠rb)(hn:w.cell? ⟨nb,0,none⟩=some v)(hf:w.frozen? ⟨nb,0,none⟩=false) :
  Calls Tryz.prog 207 #[.pointer (some ⟨rb,0,none⟩),.func (.func 208) #[] #[.pointer (some ⟨nb,0,none⟩)]] w fun e w'=>e=.returned (.tuple #[])∧w'=(w.setCell ⟨nb,0,none⟩ (.bool y)).setCell ⟨rb,0,none⟩ (.string (s.extract 1 s.size)):=by
 have hc:=zo2 nb v s y w h0 hy hn hf;clear hy;have hR2:=hR.other nb hne (.bool y);obtain⟨c0,c1,hf⟩:=hR;obtain⟨d0,d1,hg⟩:=hR2;have g0:=hg 0;go_enter Tryz.func207,Tryz.ntmps207
 go_wp2_with ((with_reducible refine hc.mono ?_);rintro e w' ⟨rfl,rfl⟩)
 go_end0
 exact⟨rfl,rfl⟩
theorem zg0(rb nb:Nat)(s:ByteArray)(w:World)(hy:s.size=0∨∃ h0:0<s.size,1<s[0].toNat)(hR:RD w rb s 0) :
  Calls Tryz.prog 207 #[.pointer (some ⟨rb,0,none⟩),.func (.func 208) #[] #[.pointer (some ⟨nb,0,none⟩)]] w fun e w'=>e=.returned (.tuple #[])∧RD w' rb ⟨#[]⟩ 11∧w.grownBy w' (some rb):=by
 have hc:=zo1 nb s w hy;clear hy;have hfl:=ze8 rb s 11 _ hR;rw[show ((11:Nat):Int)=11 from rfl] at hfl;obtain⟨c0,c1,hf⟩:=hR;go_enter Tryz.func207,Tryz.ntmps207
 go_wp2_with (first|((with_reducible refine hc.mono ?_);rintro e w' ⟨rfl,rfl⟩)|((with_reducible refine hfl.mono ?_);rintro e w' ⟨rfl,hR',hG⟩))
 exact bodyPost_ret (results_none rfl _ _ _) rfl ⟨rfl,hR',hG⟩
theorem zsF(rb:Nat)(s:List UInt8 × Nat)(w:World)(hs:s.1.length<=10000)(hb:rb<w.heap.size)(hR:RL w rb s) :
  Calls Tryz.prog 148 #[.pointer (some ⟨rb,0,none⟩)] w fun e w'=>e=.returned (.bool (Rd.boo s).1)∧RL w' rb (Rd.boo s).2∧w.grownBy w' (some rb):=by
 obtain⟨b,hbl,hR⟩:=hR;have hR1:RD (w.alloc (.cells #[.bool false] 4)) rb b s.2:=hR.grown (World.grownBy_alloc _ _ _) hb;obtain⟨l,er⟩:=s;simp only at hbl hR hR1 hs
 by_cases h0:er=0
 · subst h0;by_cases hy:b.size=0∨∃ h0:0<b.size,1<b[0].toNat
   · have hn:Rd.boo (l,0)=(false,([],11)):=by
      unfold Rd.boo;rw[if_pos rfl];rcases hy with hy|⟨h0,hy⟩
      · rw[<-Ds.bl_length,hbl] at hy;obtain rfl:l=[]:=List.eq_nil_of_length_eq_zero hy;rfl
      · rw[Ds.bl_get b 0 h0] at hy;rcases l with _|⟨c,r⟩
        · exact absurd h0 (by rw[<-Ds.bl_length,hbl];simp)
        · simp only[hbl,List.getElem_cons_zero] at hy
          simp only;rw[if_pos hy]
     rw[hn];have hc:=zg0 rb w.heap.size b (w.alloc (.cells #[.bool false] 4)) hy hR1
     have hcl:∀ w',(w.alloc (.cells #[.bool false] 4)).grownBy w' (some rb)->w'.cell? ⟨w.heap.size,0,none⟩=some (.bool false):=fun w' hG=>by
      rw[World.cell?_of_block (a:=⟨w.heap.size,0,none⟩) (hG.block w.heap.size (by simp) (by simp;omega))];simp [go_sem]
     have HC:=lh hcl;clear hcl hy hn hR1;go_enter Tryz.func148,Tryz.ntmps148
     go_wp2_with ((with_reducible refine hc.mono ?_);rintro e w' ⟨rfl,hR',hG⟩;have hcell:=HC.out w' hG;have HG:=lh hG;clear hG)
     go_ret
     exact⟨rfl,⟨_,rfl,hR'⟩,(World.grownBy_alloc _ _ _).trans HG.out⟩
   · have h0:0<b.size:=by
      rcases Nat.eq_zero_or_pos b.size with h|h
      · exact absurd (.inl h) hy
      · exact h
     have h1:b[0].toNat<=1:=by
      rcases Nat.lt_or_ge 1 b[0].toNat with h|h
      · exact absurd (.inr ⟨h0,h⟩) hy
      · exact h
     have hyy:b[0].toNat=(decide (b[0].toNat=1)).toNat:=by
      rcases (by omega:b[0].toNat=0∨b[0].toNat=1) with h|h <;> rw[h] <;> rfl
     have hn:Rd.boo (l,0)=(decide (b[0].toNat=1),(l.drop 1,0)):=by
      unfold Rd.boo;rw[if_pos rfl];rcases l with _|⟨c,r⟩
      · exact absurd h0 (by rw[<-Ds.bl_length,hbl];simp)
      · have e:b[0]=c:=by rw[Ds.bl_get b 0 h0];simp only[hbl,List.getElem_cons_zero]
        simp only;rw[if_neg (by rw[<-e];omega),e];rfl
     rw[hn];generalize decide (b[0].toNat=1)=y at hyy ⊢;have hc:=zh2 rb w.heap.size b y (.bool false) (w.alloc (.cells #[.bool false] 4)) h0 hyy hR1 (by omega) (by simp [go_sem]) (by simp);have hR2:=hR1.other w.heap.size (by omega) (.bool y);have d0:=hR2.1;have HBL:=lh hbl;clear hy h1 hyy hn hR1 hR2 hbl;go_enter Tryz.func148,Tryz.ntmps148
     go_wp2_with ((with_reducible refine hc.mono ?_);rintro e w' ⟨rfl,rfl⟩)
     go_ret
     exact⟨rfl,⟨_,by rw[ziw,HBL.out],(hR.take _).grown (World.grownBy_alloc _ _ _) (by simpa using hb)⟩,(zaH w ⟨rb,0,none⟩ _).trans (World.grownBy_alloc _ _ _)⟩
 · have hn:Rd.boo (l,er)=(false,(l,er)):=by unfold Rd.boo;rw[if_neg h0]
   rw[hn];have hc:=zfB rb er (.func (.func 208) #[] #[.pointer (some ⟨w.heap.size,0,none⟩)]) b (w.alloc (.cells #[.bool false] 4)) h0 hR1;have HB:=lh hR;have HBL:=lh hbl;clear h0 hR1 hR hbl hn;go_enter Tryz.func148,Tryz.ntmps148
   go_wp2_with ((with_reducible refine hc.mono ?_);rintro e w' ⟨rfl,rfl⟩)
   go_ret
   exact⟨rfl,⟨b,HBL.out,HB.out.grown (World.grownBy_alloc _ _ _) hb⟩,World.grownBy_alloc _ _ _⟩
end
section
open Go.RowKit
theorem zo3(rb m:Nat)(s:List UInt8 × Nat)(w:World)(hs:s.1.length<=10000)(hb:rb<w.heap.size)(hR:RL w rb s)(hm:m<=100000) :
  Calls Tryz.prog 209 #[.pointer (some ⟨rb,0,none⟩),.int .i64 m] w fun e w'=>e=.returned (.int .i64 (Rd.cnt m s).1)∧RL w' rb (Rd.cnt m s).2∧w.grownBy w' (some rb):=by
 have hc:=zh1 rb s w hs hb hR;have hu:IntKind.u64.wrap (m:Int)=(m:Int):=IntWalk.u64_in _ ⟨by omega,by omega⟩;have hlt:=Rd.num_lt s;by_cases h0:(Rd.num s).2.2=0
 · by_cases hx:m<(Rd.num s).1
   · have hn:Rd.cnt m s=(0,([],8)):=by unfold Rd.cnt;rw[if_pos h0,if_pos hx]
     rw[hn];rcases hnum:Rd.num s with ⟨x,l,er⟩
     rw[hnum] at hc h0 hx;simp only at h0 hx hc
     subst h0;have e1:decide ((m:Int)<(x:Int))=true:=by simp;omega
     clear hn hnum hlt;go_enter Tryz.func209,Tryz.ntmps209
     go_wp2_with (first|((with_reducible refine hc.mono ?_);rintro e w' ⟨rfl,⟨b,hb1,hR'⟩,hG⟩;have c1:=hR'.2.1;have HG:=lh hG;have HB:=lh hb1;clear hG hb1)|(go_at_call 210;(with_reducible refine (zo4 rb _ _ hR').mono ?_);rintro e w2 ⟨rfl,hR2,hG2⟩))
     go_ret
     exact⟨rfl,⟨_,rfl,hR2⟩,HG.out.trans hG2⟩
   · have hn:Rd.cnt m s=Rd.num s:=by unfold Rd.cnt;rw[if_pos h0,if_neg hx]
     rw[hn];rcases hnum:Rd.num s with ⟨x,l,er⟩
     rw[hnum] at hc h0 hx;simp only at h0 hx hc
     subst h0;have hi:IntKind.i64.wrap (x:Int)=(x:Int):=IntWalk.i64_in _ ⟨by omega,by omega⟩;have e1:decide ((m:Int)<(x:Int))=false:=by simp;omega
     clear hn hnum hlt;go_enter Tryz.func209,Tryz.ntmps209
     go_wp2_with ((with_reducible refine hc.mono ?_);rintro e w' ⟨rfl,⟨b,hb1,hR'⟩,hG⟩;have c1:=hR'.2.1;have HG:=lh hG;have HB:=lh hb1;clear hG hb1)
     go_ret
     exact⟨rfl,⟨b,HB.out,hR'⟩,HG.out⟩
 · have hn:Rd.cnt m s=(0,(Rd.num s).2):=by unfold Rd.cnt;rw[if_neg h0]
   rw[hn];rcases hnum:Rd.num s with ⟨x,l,er⟩
   rw[hnum] at hc h0;simp only at h0 hc
   have e1:((er:Int)==0)=false:=by simpa using h0
   have e2:((er:Int) != 0)=true:=by simpa using h0
   clear hn hnum hlt h0;go_enter Tryz.func209,Tryz.ntmps209
   go_wp2_with ((with_reducible refine hc.mono ?_);rintro e w' ⟨rfl,⟨b,hb1,hR'⟩,hG⟩;have c1:=hR'.2.1;have HG:=lh hG;have HB:=lh hb1;clear hG hb1)
   go_ret
   exact⟨rfl,⟨b,HB.out,hR'⟩,HG.out⟩
theorem zsH(rb m:Nat)(s:List UInt8 × Nat)(w:World)(hs:s.1.length<=10000)(hb:rb<w.heap.size)(hR:RL w rb s)(hm:m<=100000) :
  Calls Tryz.prog 150 #[.pointer (some ⟨rb,0,none⟩),.int .i64 m] w fun e w'=>∃ t,e=.returned (.string t)∧Ds.bl t=(Rd.txt m s).1∧RL w' rb (Rd.txt m s).2∧w.grownBy w' (some rb):=by
 have hc:=zo3 rb m s w hs hb hR hm;have hle:=Rd.cnt_len m s;by_cases h0:(Rd.cnt m s).2.2=0
 · by_cases hx:(Rd.cnt m s).2.1.length<(Rd.cnt m s).1
   · have hn:Rd.txt m s=([],([],11)):=by unfold Rd.txt;rw[if_pos h0,if_pos hx]
     rw[hn];have hcm:=Rd.cnt_le m s;rcases hnum:Rd.cnt m s with ⟨x,l,er⟩
     rw[hnum] at hc h0 hx hle hcm;simp only at h0 hx hc hle hcm
     subst h0;clear hn hnum;go_enter Tryz.func150,Tryz.ntmps150
     go_wp2_with (first|((with_reducible refine hc.mono ?_);rintro e w' ⟨rfl,⟨b,hb1,hR'⟩,hG⟩;have c0:=hR'.1;have c1:=hR'.2.1;have HG:=lh hG;have hbs:b.size=l.length:=(by rw[<-Ds.bl_length,hb1]);have e1:decide (b.size<x)=true:=(by rw[decide_eq_true_eq];omega);have HB:=lh hb1;clear hG hb1 hbs)|(go_at_call 210;(with_reducible refine (zm8 rb _ _ hR').mono ?_);rintro e w2 ⟨rfl,hR2,hG2⟩))
     go_ret
     exact⟨_,rfl,rfl,⟨_,rfl,hR2⟩,HG.out.trans hG2⟩
   · have hn:Rd.txt m s=((Rd.cnt m s).2.1.take (Rd.cnt m s).1,((Rd.cnt m s).2.1.drop (Rd.cnt m s).1,0)):=by unfold Rd.txt;rw[if_pos h0,if_neg hx]
     rw[hn];have hcm:=Rd.cnt_le m s;rcases hnum:Rd.cnt m s with ⟨x,l,er⟩
     rw[hnum] at hc h0 hx hle hcm;simp only at h0 hx hc hle hcm
     subst h0;clear hn hnum;go_enter Tryz.func150,Tryz.ntmps150
     go_wp2_with ((with_reducible refine hc.mono ?_);rintro e w' ⟨rfl,⟨b,hb1,hR'⟩,hG⟩;have c0:=hR'.1;have c1:=hR'.2.1;have f0:=hR'.2.2 0;have HG:=lh hG;have hbs:b.size=l.length:=(by rw[<-Ds.bl_length,hb1]);have hxb:x<=b.size:=(by omega);have hbz:b.size<=10000:=(by omega);have e1:decide ((b.size:Int)<(x:Int))=false:=(by rw[decide_eq_false_iff_not];omega);have HB:=lh hb1;clear hG hb1 hbs)
     go_ret
     exact⟨_,rfl,by rw[zqW,HB.out],⟨_,by rw[ziw,HB.out],hR'.take _⟩,HG.out.trans (zaH _ ⟨rb,0,none⟩ _)⟩
 · have hn:Rd.txt m s=([],(Rd.cnt m s).2):=by unfold Rd.txt;rw[if_neg h0]
   rw[hn];rcases hnum:Rd.cnt m s with ⟨x,l,er⟩
   rw[hnum] at hc h0;simp only at h0 hc
   have e1:((er:Int)==0)=false:=by simpa using h0
   have e2:((er:Int) != 0)=true:=by simpa using h0
   clear hn hnum hle h0;go_enter Tryz.func150,Tryz.ntmps150
   go_wp2_with ((with_reducible refine hc.mono ?_);rintro e w' ⟨rfl,⟨b,hb1,hR'⟩,hG⟩;have c1:=hR'.2.1;have HG:=lh hG;have HB:=lh hb1;clear hG hb1)
   go_ret
   exact⟨_,rfl,rfl,⟨b,HB.out,hR'⟩,HG.out⟩
theorem zsG(rb:Nat)(s:List UInt8 × Nat)(w:World)(hR:RL w rb s) :
  Calls Tryz.prog 100 #[.pointer (some ⟨rb,0,none⟩)] w fun r w'=>r=.returned (.bool (decide (s.2=0∧s.1≠[])))∧w=w':=by
 obtain⟨b,hbl,c0,c1,hf⟩:=hR;obtain⟨l,er⟩:=s;simp only at hbl c0 c1
 rcases Nat.eq_zero_or_pos er with rfl|he
 · rcases l with _|⟨x,l⟩
   · have e1:b.toList.isEmpty=true:=zb7 b (by rw[<-Ds.bl_length,hbl];rfl);clear hbl;go_enter Tryz.func100,Tryz.ntmps100
     go_wp2_with fail
     go_ret
     exact⟨rfl,rfl⟩
   · have e1:b.toList.isEmpty=false:=zbH b (by rw[<-Ds.bl_length,hbl];simp);clear hbl;go_enter Tryz.func100,Tryz.ntmps100
     go_wp2_with fail
     go_ret
     exact⟨by simp,rfl⟩
 · have e0:((er:Int)==0)=false:=by simp;omega
   go_enter Tryz.func100,Tryz.ntmps100
   go_wp2_with fail
   go_ret
   exact⟨by simp;omega,rfl⟩
theorem zqk(rb:Nat)(s:List UInt8 × Nat)(w:World)(hR:RL w rb s) :
  Calls Tryz.prog 33 #[.pointer (some ⟨rb,0,none⟩)] w fun r w'=>r=.returned (.int .i64 (Rd.fin s))∧w=w':=by
 have ho:=zsG rb s w hR;obtain⟨b,hbl,c0,c1,hf⟩:=hR;obtain⟨l,er⟩:=s;simp only at hbl c0 c1 ho
 unfold Rd.fin;simp only
 by_cases h:er=0∧l≠[]
 · rw[if_pos h];rw[decide_eq_true h] at ho;clear h;go_enter Tryz.func33,Tryz.ntmps33
   go_wp2_with ((with_reducible refine ho.mono ?_);rintro _ w' ⟨rfl,rfl⟩)
   go_ret
   exact⟨rfl,rfl⟩
 · rw[if_neg h];rw[decide_eq_false h] at ho;clear h;go_enter Tryz.func33,Tryz.ntmps33
   go_wp2_with ((with_reducible refine ho.mono ?_);rintro _ w' ⟨rfl,rfl⟩)
   go_ret
   exact⟨rfl,rfl⟩
end
end Go.Proofs.YtefcmdmfgdcpmaaGreatDoor
