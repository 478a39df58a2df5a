/- Catalogs. -/
import Derived.Test.YtnkjliahpeebjaaGreatDoorChecked
import Derived.Test.YtnkjliahpeebjaaGreatDoorKit
import Derived.Test.YtnkjliahpeebjaaGreatDoorDs
import Derived.Lib.SmallJoins
set_option maxRecDepth 4000
set_option maxHeartbeats 800000
open Option renaming some->Z9,none->Z8
open _root_ renaming ByteArray->Z7,List->Z5,if_neg->Z0,if_pos->ZX,UInt8->ZP,congrArg->YX
open Go.Proofs.Tryz renaming prog->Z6
open Go.Proofs.YtnkjliahpeebjaaGreatDoor.Ds renaming bl->Z4,bl_length->ZO,bl_get->Wf
open Go renaming World->Z2,Calls->ZJ,bodyPost_ret->Zd,results_none->WZ
open Go.World renaming cell?_of_block->Z1,cell?_setCell_other->Zt,grownBy_alloc->Ys
open Bool renaming true->ZZ,false->ZW
open Nat renaming lt_of_lt_of_le->ZY,le_trans->ZD,lt_or_ge->YI,eq_zero_or_pos->YC,mul_le_mul_right->Yq,pow_le_pow_right->XD,pow_succ->Wq
open List renaming length_cons->ZK,range->X3,getElem_cons_zero->WD
open UInt8 renaming ofNat->Yc
open Go.IntWalk renaming u64_in->VN
namespace Go.Proofs.YtnkjliahpeebjaaGreatDoor.Wi
variable(n x k:Nat)(r:Z5 ZP)
def enc(n:Nat):Z5 ZP:=if n<128 then [Yc n] else Yc (n % 128+128)::enc (n / 128)
termination_by n
theorem enc_lt(h:n<128):enc n=[Yc n]:=by rw[enc,ZX h]
theorem enc_ge(h:128<=n):enc n=Yc (n % 128+128)::enc (n / 128):=by rw[enc,Z0 (by omega)]
theorem Ew:1<=(enc n).length:=by
 rw[enc];split <;> simp
theorem enc_len:∀ (k n:Nat),n<2 ^ (7*(k+1))->(enc n).length<=k+1:=by
 intro k
 induction k with
 | zero=>intro n h;rw[enc_lt n (by simpa using h)];simp
 | succ k i =>
   intro n h;rcases YI n 128 with H|H
   .rw[enc_lt n H];simp
   .rw[enc_ge n H]
    have:=i (n / 128) (by
     rw[show 7*(k+1+1)=7*(k+1)+7 by omega,Nat.pow_add] at h;exact Nat.div_lt_of_lt_mul (by rw[Nat.mul_comm];exact h))
    simp;omega
def dec:Nat->Nat->Z5 ZP->Nat × Nat
 | _,_,[]=>(0,0)
 | i,a,b::r=>if 10<=i then (0,0) else if i=9/\1<b.toNat then (0,0) else if b.toNat<128 then (if b.toNat=0/\0<i then (0,0) else (a+b.toNat % 128*2 ^ (7*i),i+1)) else dec (i+1) (a+b.toNat % 128*2 ^ (7*i)) r
theorem u8_of(h:n<256):(Yc n).toNat=n:=by rw[UInt8.toNat_ofNat'];omega
theorem Dh:∀ (k m i a:Nat),m<2 ^ (7*(k+1))->i+k<=9->(0<i->0<m)->(m*2 ^ (7*i)<2 ^ 64)->dec i a (enc m++r)=(a+m*2 ^ (7*i),i+(enc m).length):=by
 intro k
 induction k with
 | zero =>
   intro m i a h q j o;have H:m<128:=by simpa using h
   rw[enc_lt m H,List.singleton_append,dec,u8_of m (by omega)]
   have l:¬ (i=9/\1<m):=by
    rintro ⟨rfl,f⟩;have:2*2 ^ 63<=m*2 ^ (7*9):=Yq _ f;omega
   rw[Z0 (by omega),Z0 l,ZX H,Z0 (by rintro ⟨rfl,f⟩;exact absurd (j f) (by omega)),Nat.mod_eq_of_lt H];rfl
 | succ k I =>
   intro m i a h q j o;rcases YI m 128 with H|H
   .rw[enc_lt m H,List.singleton_append,dec,u8_of m (by omega)];have l:¬ (i=9/\1<m):=by omega
    rw[Z0 (by omega),Z0 l,ZX H,Z0 (by rintro ⟨rfl,f⟩;exact absurd (j f) (by omega)),Nat.mod_eq_of_lt H];rfl
   .rw[enc_ge m H,List.cons_append,dec,u8_of _ (by omega)];rw[Z0 (by omega),Z0 (by omega),Z0 (by omega)];have e:(m % 128+128) % 128=m % 128:=by omega
    have p:m / 128<2 ^ (7*(k+1)):=by
     rw[show 7*(k+1+1)=7*(k+1)+7 by omega,Nat.pow_add] at h;exact Nat.div_lt_of_lt_mul (by rw[Nat.mul_comm];exact h)
    have u:2 ^ (7*(i+1))=128*2 ^ (7*i):=by
     rw[show 7*(i+1)=7+7*i by omega,Nat.pow_add]
    have z:m / 128*2 ^ (7*(i+1))+m % 128*2 ^ (7*i)=m*2 ^ (7*i):=by
     rw[u,<-Nat.mul_assoc,<-Nat.add_mul];congr 1;omega
    rw[e,I (m / 128) (i+1) _ p (by omega) (by omega) (by omega)];simp only[ZK,Prod.mk.injEq]
    omega
theorem Ca(h:n<2 ^ 64):dec 0 0 (enc n++r)=(n,(enc n).length):=by
 have:=Dh r 9 n 0 0 (ZY h (XD (by omega) (by omega))) (by omega) (by omega) (by omega);simpa using this
theorem dec_le:∀ (l:Z5 ZP) (i a:Nat),(dec i a l).2<=i+l.length/\(dec i a l).2<=10
 | [],i,a=>by simp [dec]
 | b::r,i,a=>by
   have I:=dec_le r (i+1) (a+b.toNat % 128*2 ^ (7*i));rw[dec];split
   .simp
   .split
    .simp
    .split
     .split
      .simp
      .simp;omega
     .simp only[ZK];omega
theorem vK:∀ (l:Z5 ZP) (i a:Nat),a<2 ^ (7*i)->(dec i a l).1<2 ^ 64
 | [],i,a,_=>by simp [dec]
 | b::r,i,a,h=>by
   rw[dec];split
   .simp
   .rename_i j;split
    .simp
    .rename_i o
     have p:2 ^ (7*(i+1))=128*2 ^ (7*i):=by
      rw[show 7*(i+1)=7+7*i by omega,Nat.pow_add]
     have f:a+b.toNat % 128*2 ^ (7*i)<2 ^ (7*(i+1)):=by
      rw[p];have H:b.toNat % 128<=127:=by omega
      have:=Yq (2 ^ (7*i)) H;omega
     split
     .split
      .simp
      .show a+b.toNat % 128*2 ^ (7*i)<2 ^ 64
       rcases (by omega:i<=8\/i=9) with q|rfl
       .exact ZY f (XD (by omega) (by omega))
       .have H:b.toNat % 128<=1:=by omega
        have:=Yq (2 ^ (7*9)) H;have e:(2:Nat) ^ 64=2 ^ (7*9)+2 ^ (7*9):=by decide
        omega
     .exact vK r (i+1) _ f
theorem or_add(h:n<2 ^ k):n ||| (x*2 ^ k)=n+x*2 ^ k:=by
 rw[<-Nat.shiftLeft_eq,Nat.or_comm,<-Nat.shiftLeft_add_eq_or_of_lt h,Nat.add_comm]
end Go.Proofs.YtnkjliahpeebjaaGreatDoor.Wi
section
namespace Go.Proofs.YtnkjliahpeebjaaGreatDoor.Rd
open Wi
variable(m:Nat)(s:Z5 ZP × Nat)
def num(s:Z5 ZP × Nat):Nat × (Z5 ZP × Nat) :=
 if s.2=0 then (if (dec 0 0 s.1).2=0 then ((dec 0 0 s.1).1,([],11)) else ((dec 0 0 s.1).1,(s.1.drop (dec 0 0 s.1).2,0))) else (0,s)
def boo(s:Z5 ZP × Nat):Bool × (Z5 ZP × Nat) :=
 if s.2=0 then (match s.1 with|[]=>(ZW,([],11))|b::r=>if 1<b.toNat then (ZW,([],11)) else (decide (b.toNat=1),(r,0))) else (ZW,s)
def cnt(m:Nat)(s:Z5 ZP × Nat):Nat × (Z5 ZP × Nat) :=
 if (num s).2.2=0 then (if m<(num s).1 then (0,([],8)) else num s) else (0,(num s).2)
def txt(m:Nat)(s:Z5 ZP × Nat):Z5 ZP × (Z5 ZP × Nat) :=
 if (cnt m s).2.2=0 then (if (cnt m s).2.1.length<(cnt m s).1 then ([],([],11)) else ((cnt m s).2.1.take (cnt m s).1,((cnt m s).2.1.drop (cnt m s).1,0))) else ([],(cnt m s).2)
def fin(s:Z5 ZP × Nat):Nat:=if s.2=0/\s.1≠[] then 11 else s.2
theorem num_bad(h:s.2≠0):num s=(0,s):=by unfold num;rw[Z0 h]
theorem num_none(h:s.2=0)(H:(dec 0 0 s.1).2=0):num s=((dec 0 0 s.1).1,([],11)):=by unfold num;rw[ZX h,ZX H]
theorem num_some(h:s.2=0)(H:(dec 0 0 s.1).2≠0):num s=((dec 0 0 s.1).1,(s.1.drop (dec 0 0 s.1).2,0)):=by unfold num;rw[ZX h,Z0 H]
theorem num_lt:(num s).1<2 ^ 64:=by
 have:=vK s.1 0 0 (by decide);unfold num;split
 .split <;> exact this
 .exact Nat.two_pow_pos 64
theorem num_len:(num s).2.1.length<=s.1.length:=by
 unfold num;split
 .split
  .simp
  .simp
 .simp
theorem boo_len:(boo s).2.1.length<=s.1.length:=by
 unfold boo;split
 .rcases s with ⟨_|⟨b,r⟩,e⟩
  .simp
  .simp only;split <;> simp
 .simp
theorem cnt_len:(cnt m s).2.1.length<=s.1.length:=by
 have:=num_len s;unfold cnt;split
 .split
  .simp
  .exact this
 .exact this
theorem cnt_le:(cnt m s).1<=m:=by
 unfold cnt;split
 .split
  .simp
  .omega
 .simp
theorem txt_len:(txt m s).2.1.length<=s.1.length/\(txt m s).1.length<=m:=by
 have:=cnt_len m s;have:=cnt_le m s;unfold txt;split
 .split
  .simp
  .simp;omega
 .simp;omega
end Go.Proofs.YtnkjliahpeebjaaGreatDoor.Rd
end
section
namespace Go.Proofs.YtnkjliahpeebjaaGreatDoor.Rd
open Wi
variable(y:Bool)(m n:Nat)(s r:Z5 ZP)
theorem num_enc(h:n<2 ^ 64):num (enc n++r,0)=(n,(r,0)):=by
 have H:=Ca n r h;have p:=Ew n;rw[num_some _ rfl (by simp only[H];omega)];simp only[H,List.drop_left]
theorem boo_tb:boo ((if y then 1 else 0)::r,0)=(y,(r,0)):=by
 cases y <;> rfl
theorem cnt_enc(h:n<=m)(H:n<2 ^ 64):cnt m (enc n++r,0)=(n,(r,0)):=by
 unfold cnt;rw[num_enc n r H];simp only
 rw[ZX trivial,Z0 (by omega)]
theorem txt_enc(h:s.length<=m)(H:s.length<2 ^ 64):txt m (enc s.length++(s++r),0)=(s,(r,0)):=by
 unfold txt;rw[cnt_enc m s.length (s++r) h H];simp only
 rw[ZX trivial,Z0 (by simp),List.take_left,List.drop_left]
end Go.Proofs.YtnkjliahpeebjaaGreatDoor.Rd
end
namespace Go.Proofs.YtnkjliahpeebjaaGreatDoor
variable(b:Z7)(W:Z2)(d n m g a k c x:Nat)(s t:Z7)(y:Bool){e:Nat}(v:Value)(w:Z2)
section
open Go.RowKit
def BY(w:Z2)(g:Nat)(f:Nat->ZP):Prop:=(∀ j,j<10->w.cell? ⟨g,j,Z8⟩=Z9 (.int .u8 (f j).toNat))/\(∀ o,w.frozen? ⟨g,o,Z8⟩=ZW)
theorem Ih(H:k<=9) :
 (Instr.sliceAt 303 (.pointer (Z9 ⟨g,0,Z8⟩)) Z8 (Z9 (.int .i64 ((k:Int)+1))) Z8).run Z6 W=.ok (.slice (Z9 ⟨g,0,Z8⟩) (k+1) 10) W:=by
 have e:Tryz.prog.arrayLen 303=10:=by kernel_rfl
 have z:Tryz.prog.elem 303=5:=by kernel_rfl
 have h:Tryz.prog.underlying 303=Z9 (.array (Tryz.prog.arrayLen 303) (Tryz.prog.elem 303)):=by kernel_rfl
 rw[run_sliceAt_array_h W 303 ⟨g,0,Z8⟩ h .i64 _ (by omega) (by rw[e];omega),e,z];simp [Tryz.sizeOf5,slicedAt,Addr.add]
theorem or128:bits .or .u8 ((m:Int) % 256) 128=((m % 128+128:Nat):Int):=by
 have h:=(bits_nat .u8 8 (by decide) wraps_u8 (m % 256) 128 (by omega) (by decide)).2;have e:((m:Int) % 256)=((m % 256:Nat):Int):=by simp
 rw[e];refine h.trans ?_
 have key:∀ x:Fin 256,x.val ||| 128=x.val % 128+128:=by decide
 have:=key ⟨m % 256,Nat.mod_lt _ (by decide)⟩;simp only at this
 rw[this];congr 2
 omega
theorem yX(l:Z5 ZP)(h:∀ j (H:j<l.length),W.cell? ⟨g,j,Z8⟩=Z9 (.int .u8 (l[j].toNat:Int))) :
 (convert 156 9 (.slice (Z9 ⟨g,0,Z8⟩) l.length c)).run Z6 W=.ok (.string ⟨l.toArray⟩) W :=
 run_convert_bytes_back W 156 9 5 ⟨g,0,Z8⟩ c l Tryz.underlying156 Tryz.underlying5 Tryz.underlying9 (fun j H=>by
  have:=h j H;rcases j with _|j <;> simpa [Addr.add] using this)
theorem BY.set{w:Z2}{g:Nat}{f:Nat->ZP}(h:BY w g f)(k:Nat)(q:k<10)(c:ZP):BY (w.setCell ⟨g,k,Z8⟩ (.int .u8 c.toNat)) g (fun j=>if j=k then c else f j):=by
 refine⟨fun j p=>?_,fun o=>by have:=h.2 o;simpa using this⟩
 have l:=h.1 j p;have H:=h.1 k q;by_cases e:j=k
 .subst e;simp [go_sem,H]
 .show _=Z9 (Value.int .u8 ((if j=k then c else f j:ZP).toNat:Int))
  rw[Z0 e,<-l];have E:k≠j:=fun h=>e h.symm
  have i:(k==j)=ZW:=by simpa using E
  simp [go_sem]
theorem rl(f:Nat->ZP)(k:Nat)(c:ZP):(X3 (k+1)).map (fun j=>if j=k then c else f j)=(X3 k).map f++[c]:=by
 rw[List.range_succ,List.map_append];congr 1
 .apply List.map_congr_left
  intro j h;have:j<k:=by simpa using h
  rw[Z0 (by omega)]
 .simp
theorem kK(f:1<=m)(h:m*128 ^ k<=n)(o:n<18446744073709551616):k<=9:=by
 rcases YI 9 k with H|H
 .have i:128 ^ 10<=128 ^ k:=XD (by decide) H;have j:1*128 ^ k<=m*128 ^ k:=Yq _ f;have l:(128:Nat) ^ 10=1180591620717411303424:=by decide
  omega
 .exact H
theorem GP(f:128<=m)(h:m*128 ^ k<=n)(H:n<18446744073709551616):k<=8:=by
 have:=kK n (m / 128) (k+1) (by omega) (ZD (by rw[Wq,Nat.mul_comm (128 ^ k),<-Nat.mul_assoc];exact Yq _ (Nat.div_mul_le_self _ _)) h) H;omega
theorem BY.new:BY (w.alloc (.cells #[.int .u8 0,.int .u8 0,.int .u8 0,.int .u8 0,.int .u8 0,.int .u8 0,.int .u8 0,.int .u8 0,.int .u8 0,.int .u8 0] 303)) w.heap.size (fun _=>0):=by
 refine⟨fun j h=>?_,fun o=>by simp⟩
 rw[cell_of_row _ w.heap.size _ _ 303 (0,0) (heap_alloc_new w _)];rcases (by omega:j=0\/j=1\/j=2\/j=3\/j=4\/j=5\/j=6\/j=7\/j=8\/j=9) with rfl|rfl|rfl|rfl|rfl|rfl|rfl|rfl|rfl|rfl <;> rfl
theorem vC(n:Nat)(w:Z2)(J:n<18446744073709551616)(V:s.size<=10000) :
 ZJ Z6 199 #[.string s,.int .u64 n] w fun e T=>∃ t:Z7,e=.returned (.string t)/\Z4 t=Z4 s++Wi.enc n/\Below w.heap.size w T:=by
 have N:=lh J;clear J;go_enter Tryz.func199,Tryz.ntmps199
 go_wp2_with fail
 go_loopw [1,6] (fun a i wr=>∃ (k m:Nat) (f:Nat->ZP),i=.int .i64 k/\a=.int .u64 m/\m*128 ^ k<=n/\(0<k->0<m)/\Wi.enc n=(X3 k).map f++Wi.enc m/\BY wr w.heap.size f/\w.heap.size<wr.heap.size/\Below w.heap.size w wr) (fun a _ _=>(intOf a).toNat)
 case atStart=>exact⟨0,n,fun _=>0,rfl,rfl,by omega,by omega,rfl,BY.new w,by simp,by (repeat (first|exact Below.refl _ _|assumption|(refine Below.drew ?_)|(refine Below.alloc ?_ (by simp) _)|(refine Below.setCell ?_ (by simp) _)))⟩
 case round =>
  obtain⟨k,m,f,rfl,rfl,l,p,q,H,D,B⟩:=hrel;by_cases I:128<=m
  .have G:k<=8:=GP n m k I l N.o;have K:=H.1 k (by omega);have O:=H.2 k;have u:=lh q;have U:=or128 m;have S:=lh (H.set k (by omega) (Yc (m % 128+128)));have E:(Yc (m % 128+128)).toNat=m % 128+128:=Wi.u8_of _ (by omega);have z:=lh E;clear q E H;go_wp2_with fail
   go_roundw
   case rel =>
    refine⟨k+1,m / 128,fun j=>if j=k then Yc (m % 128+128) else f j,by go_num,by go_num,?_,by omega,?_,?_,by simpa using D,B.setCell (by simp) _⟩
    .exact ZD (by rw[Wq,Nat.mul_comm (128 ^ k),<-Nat.mul_assoc];exact Yq _ (Nat.div_mul_le_self _ _)) l
    .rw[rl,u.o,Wi.enc_ge m I,List.append_assoc];rfl
    .have:=S.o;rw[z.o] at this;exact this
   case measure=>simp [intOf];omega
  .have G:k<=9:=by
    rcases YC k with rfl|P
    .omega
    .exact kK n m k (p P) l N.o
   have K:=H.1 k (by omega);have O:=H.2 k;have u:=lh q;have R:=fun W=>Ih W w.heap.size k G
   have E:(Yc m).toNat=m:=Wi.u8_of _ (by omega);have S:=H.set k (by omega) (Yc m);rw[E] at S;have h:((X3 (k+1)).map (fun j=>if j=k then Yc m else f j)).length=k+1:=by simp
   have o:=yX (wr.setCell ⟨w.heap.size,k,Z8⟩ (.int .u8 m)) w.heap.size 10 ((X3 (k+1)).map (fun j=>if j=k then Yc m else f j)) (fun j Q=>by
    have A:j<10:=by rw[h] at Q;omega
    rw[S.1 j A];simp)
   rw[h,rl] at o;have F:=lh (show Wi.enc n=(X3 k).map f++[Yc m] by rw[u.o,Wi.enc_lt m (by omega)]);have C:((X3 k).map f++[Yc m]).length<=10:=by simp;omega
   generalize (X3 k).map f++[Yc m]=L at o F C;clear q h E S H;go_wp2_with fail
   go_ret
   exact⟨_,rfl,by simp [Z4,F.o],B.setCell (by simp) _⟩
end
section
open Go.RowKit
theorem uT(a b k:Nat)(ha:a<2 ^ (7*k))(l:b<256)(h:b % 128*2 ^ (7*k)+a<2 ^ 64) :
 bits .or .u64 (a:Int) (IntKind.u64.wrap (IntKind.u64.wrap (bits .and .u8 (b:Int) 127)*2 ^ (7*k)))=((a+b % 128*2 ^ (7*k):Nat):Int):=by
 have e:(2:Nat) ^ 64=18446744073709551616:=by decide
 rw[e] at h
 have H:bits .and .u8 (b:Int) 127=((b % 128:Nat):Int):=by
  have:=bits_mask .u8 8 (by decide) wraps_u8 7 (by decide) (b:Int) (by omega) (by show (b:Int)<256;omega);refine this.trans ?_
  simp
 have f:IntKind.u64.wrap ((b % 128:Nat):Int)=((b % 128:Nat):Int):=VN _ ⟨by omega,by omega⟩;have i:((b % 128:Nat):Int)*2 ^ (7*k)=((b % 128*2 ^ (7*k):Nat):Int):=by push_cast;rfl
 have j:IntKind.u64.wrap ((b % 128*2 ^ (7*k):Nat):Int)=((b % 128*2 ^ (7*k):Nat):Int):=VN _ ⟨by omega,by omega⟩;rw[H,f,i,j,bits_or_u64_nat _ _ (by omega) (by omega),Wi.or_add _ _ _ ha]
theorem fit8(a b k:Nat)(i:k<=8)(ha:a<2 ^ (7*k)):b % 128*2 ^ (7*k)+a<2 ^ (7*(k+1))/\b % 128*2 ^ (7*k)+a<2 ^ 64:=by
 have p:2 ^ (7*(k+1))=128*2 ^ (7*k):=by rw[show 7*(k+1)=7+7*k by omega,Nat.pow_add]
 have H:b % 128<=127:=by omega
 have f:=Yq (2 ^ (7*k)) H;have h:b % 128*2 ^ (7*k)+a<2 ^ (7*(k+1)):=by rw[p];omega
 exact⟨h,ZY h (XD (by decide) (by omega))⟩
theorem fit9(a b:Nat)(f:b<=1)(ha:a<2 ^ (7*9)):b % 128*2 ^ (7*9)+a<2 ^ 64:=by
 have h:b % 128<=1:=by omega
 have H:=Yq (2 ^ (7*9)) h;have e:(2:Nat) ^ 64=2 ^ (7*9)+2 ^ (7*9):=by decide
 omega
theorem AQ(U:s.size<=10000) :
 ZJ Z6 275 #[.string s] w fun e P=>e=.returned (.tuple #[.int .u64 (Wi.dec 0 0 (Z4 s)).1,.int .i64 (Wi.dec 0 0 (Z4 s)).2])/\w=P:=by
 have L:=lh (ZO s);go_enter Tryz.func275,Tryz.ntmps275
 go_wp2_with fail
 go_loopw [4,5,6] (fun n i _ wr=>∃ k a:Nat,k<=s.size/\k<=10/\i=.int .i64 k/\n=.int .u64 a/\(k<=9->a<2 ^ (7*k))/\Wi.dec 0 0 (Z4 s)=Wi.dec k a ((Z4 s).drop k)/\w=wr) (fun _ i _ _=>10 - (intOf i).toNat)
 case atStart=>exact⟨0,0,by omega,by omega,rfl,rfl,by intro _;decide,rfl,rfl⟩
 case round =>
  obtain⟨k,a,T,C,rfl,rfl,ha,B,rfl⟩:=hrel;have J:=lh ha;have D:=lh B;clear ha B;by_cases O:k<10
  .by_cases p:k<s.size
   .have o:(Z4 s).drop k=s[k]::(Z4 s).drop (k+1):=by
     rw[List.drop_eq_getElem_cons (by rw[L.o];exact p),Wf s k p]
    have h:=D.o.trans (by rw[o]);rw[Wi.dec,Z0 (by omega)] at h;have S:=s[k].toNat_lt;have ha:=J.o (by omega);clear o;rcases (by omega:k<=8\/k=9) with u|rfl
    .obtain⟨F,A⟩:=fit8 a s[k].toNat k u ha;have j:=uT a s[k].toNat k ha (by omega) A;have I:=lh (show a+s[k].toNat % 128*2 ^ (7*k)<2 ^ (7*(k+1)) by rw[Nat.add_comm];exact F);have Q:((k:Int)==9)=ZW:=by simp;omega
     rw[Z0 (by omega)] at h;clear ha F A;by_cases l:s[k].toNat<128
     .rw[ZX l] at h;by_cases f:s[k].toNat=0/\0<k
      .rw[ZX f] at h;have H:=lh h;have E:((s[k].toNat:Int)==0)=ZZ:=by simp [f.1]
       have k0:=f.2;clear h f;go_wp2_with fail
       go_ret2
       exact⟨by rw[H.o];rfl,rfl⟩
      .rw[Z0 f] at h;have H:=lh h;clear h;rcases (by omega:s[k].toNat≠0\/k=0) with z|rfl
       .have E:((s[k].toNat:Int)==0)=ZW:=by simpa using z
        clear f z;go_wp2_with fail
        go_ret2
        exact⟨by rw[H.o];rfl,rfl⟩
       .clear f;have G:bits .or .u64 (a:Int) (IntKind.u64.wrap (IntKind.u64.wrap (bits .and .u8 (s[0].toNat:Int) 127)))=((a+s[0].toNat % 128*2 ^ (7*0):Nat):Int):=by have:=j;rw[show 7*0=0 from rfl,Int.pow_zero,Int.mul_one] at this;exact this
        have V:=lh (show ((a:Int)+(s[0].toNat:Int) % 128)=((a+s[0].toNat % 128*2 ^ (7*0):Nat):Int) by simp);by_cases z:s[0].toNat=0
        .have E:((s[0].toNat:Int)==0)=ZZ:=by simp [z]
         clear z;go_wp2_with fail
         go_ret2
         exact⟨by rw[H.o];exact YX (fun x=>Ending.returned (.tuple #[.int .u64 x,.int .i64 1])) V.o,rfl⟩
        .have E:((s[0].toNat:Int)==0)=ZW:=by simpa using z
         clear z;go_wp2_with fail
         go_ret2
         exact⟨by rw[H.o];exact YX (fun x=>Ending.returned (.tuple #[.int .u64 x,.int .i64 1])) V.o,rfl⟩
     .rw[Z0 l] at h;have H:=lh h;have E:((s[k].toNat:Int)==0)=ZW:=by simp;omega
      clear h;go_wp2_with fail
      go_roundw
      case rel=>exact⟨k+1,_,by omega,by omega,by go_num,rfl,fun _=>I.o,H.o,trivial⟩
      case measure=>simp [intOf];omega
    .by_cases N:1<s[9].toNat
     .rw[ZX ⟨rfl,N⟩] at h;have H:=lh h;have K:decide ((1:Int)<(s[9].toNat:Int))=ZZ:=by simp;omega
      clear h ha;go_wp2_with fail
      go_ret2
      exact⟨by rw[H.o];rfl,rfl⟩
     .rw[Z0 (by omega),ZX (by omega)] at h;have j:=uT a s[9].toNat 9 ha (by omega) (fit9 a s[9].toNat (by omega) ha);have K:decide ((1:Int)<(s[9].toNat:Int))=ZW:=by simp;omega
      rw[show ((2:Int) ^ (7*9))=9223372036854775808 by decide] at j;have R:=lh j;clear ha j;by_cases f:s[9].toNat=0
      .rw[ZX ⟨f,by omega⟩] at h;have H:=lh h;have E:((s[9].toNat:Int)==0)=ZZ:=by simp [f]
       clear h f;go_wp2_with fail
       go_ret2
       exact⟨by rw[H.o];rfl,rfl⟩
      .rw[Z0 (by omega)] at h;have H:=lh h;have E:((s[9].toNat:Int)==0)=ZW:=by simpa using f
       clear h f;go_wp2_with fail
       go_ret2
       exact⟨by rw[H.o];exact YX (fun x=>Ending.returned (.tuple #[.int .u64 x,.int .i64 10])) R.o,rfl⟩
   .have h:=D.o.trans (by rw[List.drop_eq_nil_of_le (by rw[L.o];omega),Wi.dec]);have H:=lh h;clear h;go_wp2_with fail
    go_ret2
    exact⟨by rw[H.o];rfl,rfl⟩
  .have q:k=10:=by omega
   subst q;have h:=D.o.trans (by rcases X:(Z4 s).drop 10 with _|⟨b,r⟩ <;> rw[Wi.dec] <;> first|rfl|rw[ZX (by omega)]);have H:=lh h;clear h;go_wp2_with fail
   all_goals (go_ret2;exact⟨by rw[H.o];rfl,rfl⟩)
end
section
open Go.RowKit
theorem Du(h:s.size<=10000) :
 ZJ Z6 236 #[.string s,.bool ZZ] w fun e f=>∃ t:Z7,e=.returned (.string t)/\Z4 t=Z4 s++[1]/\w=f:=by
 go_enter Tryz.func236,Tryz.ntmps236
 go_wp2_with fail
 go_ret
 exact⟨_,rfl,by simp [Z4],rfl⟩
theorem AF(h:s.size<=10000) :
 ZJ Z6 236 #[.string s,.bool ZW] w fun e f=>∃ t:Z7,e=.returned (.string t)/\Z4 t=Z4 s++[0]/\w=f:=by
 go_enter Tryz.func236,Tryz.ntmps236
 go_wp2_with fail
 go_ret
 exact⟨_,rfl,by simp [Z4],rfl⟩
theorem Dt(o:s.size<=10000)(p:t.size<=10000) :
 ZJ Z6 114 #[.string s,.string t] w fun e f=>∃ u:Z7,e=.returned (.string u)/\Z4 u=Z4 s++(Wi.enc t.size++Z4 t)/\Below w.heap.size w f:=by
 have q:IntKind.u64.wrap (t.size:Int)=(t.size:Int):=VN _ ⟨by omega,by omega⟩;have j:=fun W=>vC s t.size W (by omega) o
 have l:=fun u:Z7=>ZO u
 have E:=Wi.enc_len 1 t.size (by omega);have i:=lh E;have H:=lh l;clear E l;go_enter Tryz.func114,Tryz.ntmps114
 go_wp2_with fail
 (with_reducible refine (j _).mono ?_)
 rintro _ f ⟨u,rfl,h,B⟩;have z:u.size<=10010:=by have:=YX List.length h;rw[List.length_append,H.o,H.o] at this;have:=i.o;omega
 have U:=lh h;clear h;go_wp2_with fail
 go_ret
 exact⟨_,rfl,by have:=U.o;simp only[Z4] at this |-;simp [this],B⟩
def RD(w:Z2)(d:Nat)(s:Z7)(e:Nat):Prop :=
 w.cell? ⟨d,0,Z8⟩=Z9 (.string s)/\w.cell? ⟨d,1,Z8⟩=Z9 (.int .i64 e)/\∀ o,w.frozen? ⟨d,o,Z8⟩=ZW
theorem de(a:Addr)(u:Value):w.grownBy (w.setCell a u) (Z9 a.block) :=
 ⟨rfl,rfl,rfl,by simp,fun k _ h=>heap_setCell_other w a k u (fun e=>h (by rw[e]))⟩
theorem rR :
 ZJ Z6 45 #[.string s] w fun e f=>e=.returned (.pointer (Z9 ⟨w.heap.size,0,Z8⟩))/\f=w.alloc (.cells #[.string s,.int .i64 0] 188):=by
 go_enter Tryz.func45,Tryz.ntmps45
 go_wp2_with fail
 go_ret
 exact⟨rfl,rfl⟩
theorem RD.new:RD (w.alloc (.cells #[.string s,.int .i64 0] 188)) w.heap.size s 0:=by
 refine⟨?_,?_,fun o=>by simp⟩ <;> simp [go_sem]
theorem mC(e:Nat)(w:Z2)(h:RD w d s 0) :
 ZJ Z6 116 #[.pointer (Z9 ⟨d,0,Z8⟩),.int .i64 e] w fun r f=>r=.returned (.tuple #[])/\RD f d ⟨#[]⟩ e/\w.grownBy f (Z9 d):=by
 obtain⟨C,i,H⟩:=h;have F:=H 0;have j:=H 1;go_enter Tryz.func116,Tryz.ntmps116
 go_wp2_with fail
 go_end0
 exact⟨rfl,⟨by simp [go_sem,C],by simp [go_sem,i],fun o=>by have:=H o;simpa using this⟩,(de w ⟨d,1,Z8⟩ _).trans (de _ ⟨d,0,Z8⟩ _)⟩
theorem vm(s:Z7)(w:Z2)(H:s.size<=10000)(j:w.cell? ⟨a,0,Z8⟩=Z9 v)(i:w.frozen? ⟨a,0,Z8⟩=ZW) :
 ZJ Z6 274 #[.string s,.pointer (Z9 ⟨a,0,Z8⟩)] w fun e f=>e=.returned (.int .i64 (Wi.dec 0 0 (Z4 s)).2)/\f=w.setCell ⟨a,0,Z8⟩ (.int .u64 (Wi.dec 0 0 (Z4 s)).1):=by
 have h:=fun W=>AQ s W H
 generalize Wi.dec 0 0 (Z4 s)=d at h |-;go_enter Tryz.func274,Tryz.ntmps274
 go_wp2_with ((with_reducible refine (h _).mono ?_);rintro e f ⟨rfl,rfl⟩)
 go_ret
 exact⟨rfl,rfl⟩
end
section
open Go.RowKit
theorem RD.other{w:Z2}{d:Nat}{s:Z7}(h:RD w d s e)(a:Nat)(H:a≠d)(v:Value):RD (w.setCell ⟨a,0,Z8⟩ v) d s e:=by
 obtain⟨C,f,i⟩:=h;refine⟨?_,?_,fun o=>?_⟩
 .rw[Zt _ _ _ _ (by intro h;cases h;exact H rfl)];exact C
 .rw[Zt _ _ _ _ (by intro h;cases h)];exact f
 .have:=i o;simpa using this
theorem RD.grown{w f:Z2}{d:Nat}{s:Z7}(h:RD w d s e)(g:w.grownBy f Z8)(H:d<w.heap.size):RD f d s e:=by
 have k:=g.block d H (by simp);exact⟨(Z1 (a:=⟨d,0,Z8⟩) k).trans h.1,(Z1 (a:=⟨d,1,Z8⟩) k).trans h.2.1,fun o=>(World.frozen?_of_block (a:=⟨d,o,Z8⟩) k).trans (h.2.2 o)⟩
theorem RD.take{w:Z2}{d:Nat}{s:Z7}(h:RD w d s e)(t:Z7):RD (w.setCell ⟨d,0,Z8⟩ (.string t)) d t e:=by
 obtain⟨C,f,H⟩:=h;exact⟨by simp [go_sem,C],by simp [go_sem,f],fun o=>by have:=H o;simpa using this⟩
theorem Bl(h:RD w d s 0) :
 ZJ Z6 116 #[.pointer (Z9 ⟨d,0,Z8⟩),.int .i64 8] w fun r f=>r=.returned (.tuple #[])/\RD f d ⟨#[]⟩ 8/\w.grownBy f (Z9 d):=mC d s 8 w h
theorem Bc(h:RD w d s 0) :
 ZJ Z6 116 #[.pointer (Z9 ⟨d,0,Z8⟩),.int .i64 11] w fun r f=>r=.returned (.tuple #[])/\RD f d ⟨#[]⟩ 11/\w.grownBy f (Z9 d):=mC d s 11 w h
theorem rB(f:Value)(s:Z7)(w:Z2)(h:x≠0)(H:RD w d s x) :
 ZJ Z6 273 #[.pointer (Z9 ⟨d,0,Z8⟩),f] w fun e i=>e=.returned (.tuple #[])/\w=i:=by
 obtain⟨C,j,o⟩:=H;have E:((x:Int)==0)=ZW:=by simpa using h
 have l:((x:Int) != 0)=ZZ:=by simpa using h
 clear h;go_enter Tryz.func273,Tryz.ntmps273
 go_wp2_with fail
 exact Zd (WZ rfl _ _ _) rfl ⟨rfl,rfl⟩
theorem yp(u:s.size<=10000)(o:Wi.dec 0 0 (Z4 s)=(x,0))(R:RD w d s 0)(j:a≠d)(q:w.cell? ⟨a,0,Z8⟩=Z9 v)(p:w.frozen? ⟨a,0,Z8⟩=ZW) :
 ZJ Z6 273 #[.pointer (Z9 ⟨d,0,Z8⟩),.func (.func 274) #[] #[.pointer (Z9 ⟨a,0,Z8⟩)]] w fun e f=>e=.returned (.tuple #[])/\RD f d ⟨#[]⟩ 11/\(w.setCell ⟨a,0,Z8⟩ (.int .u64 x)).grownBy f (Z9 d):=by
 have l:=vm a v s w u q p;rw[o] at l;clear o;have h:=R.other a j (.int .u64 (x:Int));have H:=mC d s 11 _ h;rw[show ((11:Nat):Int)=11 from rfl] at H;obtain⟨C,z,p⟩:=R;clear h;go_enter Tryz.func273,Tryz.ntmps273
 go_wp2_with (first|((with_reducible refine l.mono ?_);rintro e f ⟨rfl,rfl⟩)|((with_reducible refine H.mono ?_);rintro e f ⟨rfl,i,G⟩))
 exact Zd (WZ rfl _ _ _) rfl ⟨rfl,i,G⟩
theorem yC(q:s.size<=10000)(i:Wi.dec 0 0 (Z4 s)=(x,k+1))(A:k+1<=s.size)(R:RD w d s 0)(H:a≠d)(p:w.cell? ⟨a,0,Z8⟩=Z9 v)(j:w.frozen? ⟨a,0,Z8⟩=ZW) :
 ZJ Z6 273 #[.pointer (Z9 ⟨d,0,Z8⟩),.func (.func 274) #[] #[.pointer (Z9 ⟨a,0,Z8⟩)]] w fun e l=>e=.returned (.tuple #[])/\l=(w.setCell ⟨a,0,Z8⟩ (.int .u64 x)).setCell ⟨d,0,Z8⟩ (.string (s.extract (k+1) s.size)):=by
 have f:=vm a v s w q p j;rw[i] at f;clear i;have h:=R.other a H (.int .u64 (x:Int));obtain⟨C,u,j⟩:=R;obtain⟨D,z,o⟩:=h;have G:=o 0;go_enter Tryz.func273,Tryz.ntmps273
 go_wp2_with ((with_reducible refine f.mono ?_);rintro e l ⟨rfl,rfl⟩)
 go_end0
 exact⟨rfl,rfl⟩
def RL(w:Z2)(d:Nat)(s:Z5 ZP × Nat):Prop:=∃ b:Z7,Z4 b=s.1/\RD w d b s.2
theorem RL.grown{w f:Z2}{d:Nat}{s:Z5 ZP × Nat}(h:RL w d s)(g:w.grownBy f Z8)(j:d<w.heap.size):RL f d s:=by
 obtain⟨b,H,i⟩:=h;exact⟨b,H,i.grown g j⟩
theorem RL.below{w i:Z2}{d B:Nat}{s:Z5 ZP × Nat}(h:RL w d s)(g:Below B w i)(f:d<B):RL i d s:=by
 obtain⟨b,j,H⟩:=h;exact⟨b,j,(g.cell (p:=⟨d,0,Z8⟩) f).trans H.1,(g.cell (p:=⟨d,1,Z8⟩) f).trans H.2.1,fun o=>(g.frozen (p:=⟨d,o,Z8⟩) f).trans (H.2.2 o)⟩
theorem jx:Z4 (b.extract k b.size)=(Z4 b).drop k:=by
 unfold Z4;rw[ByteArray.data_extract,Array.toList_extract,List.extract_eq_take_drop];exact List.take_of_length_le (by rw[List.length_drop,Array.length_toList];exact Nat.le_refl _)
theorem ur:Z4 (b.extract 0 k)=(Z4 b).take k:=by
 unfold Z4;rw[ByteArray.data_extract,Array.toList_extract,List.extract_eq_take_drop,List.drop_zero,Nat.sub_zero]
theorem sJ(s:Z5 ZP × Nat)(w:Z2)(I:s.1.length<=10000)(A:d<w.heap.size)(R:RL w d s) :
 ZJ Z6 200 #[.pointer (Z9 ⟨d,0,Z8⟩)] w fun e f=>e=.returned (.int .u64 (Rd.num s).1)/\RL f d (Rd.num s).2/\w.grownBy f (Z9 d):=by
 obtain⟨b,H,R⟩:=R;have z:b.size<=10000:=by rw[<-ZO,H];exact I
 have h:RD (w.alloc (.cells #[.int .u64 0] 243)) d b s.2:=R.grown (Ys _ _ _) A;by_cases j:s.2=0
 .rw[j] at R h;rcases i:Wi.dec 0 0 s.1 with ⟨x,k⟩
  cases k with
  | zero =>
    have q:Rd.num s=(x,([],11)):=by rw[Rd.num_none s j (by rw[i]),i]
    rw[q];have o:=yp d w.heap.size x b (.int .u64 0) (w.alloc (.cells #[.int .u64 0] 243)) z (by rw[H];exact i) h (by omega) (by simp [go_sem]) (by simp);clear i q h j;go_enter Tryz.func200,Tryz.ntmps200
    have p:∀ f,((w.alloc (.cells #[.int .u64 0] 243)).setCell ⟨w.heap.size,0,Z8⟩ (.int .u64 x)).grownBy f (Z9 d)->f.cell? ⟨w.heap.size,0,Z8⟩=Z9 (.int .u64 x):=fun f G=>by
     rw[Z1 (a:=⟨w.heap.size,0,Z8⟩) (G.block w.heap.size (by simp) (by simp;omega))];simp [go_sem]
    have E:=lh p;clear p;go_wp2_with ((with_reducible refine o.mono ?_);rintro e f ⟨rfl,u,G⟩;have B:=E.o f G;have F:=lh G;clear G)
    go_ret
    refine⟨rfl,⟨_,rfl,u⟩,?_⟩
    have G:=F.o;have e:(w.alloc (.cells #[.int .u64 0] 243)).setCell ⟨w.heap.size,0,Z8⟩ (.int .u64 x)=w.alloc (.cells #[.int .u64 x] 243):=by simp [go_sem]
    rw[e] at G;exact (Ys _ _ _).trans G
  | succ k =>
    have C:k+1<=b.size:=by
     have:=(Wi.dec_le s.1 0 0).1;rw[i] at this;rw[<-ZO,H];omega
    have q:Rd.num s=(x,(s.1.drop (k+1),0)):=by rw[Rd.num_some s j (by rw[i];simp),i]
    rw[q];have o:=yC d w.heap.size k x b (.int .u64 0) (w.alloc (.cells #[.int .u64 0] 243)) z (by rw[H];exact i) C h (by omega) (by simp [go_sem]) (by simp);have l:=h.other w.heap.size (by omega) (.int .u64 (x:Int));have D:=lh l;have J:=l.1;have L:=lh H;clear i h l q j H;go_enter Tryz.func200,Tryz.ntmps200
    go_wp2_with ((with_reducible refine o.mono ?_);rintro e f ⟨rfl,rfl⟩)
    go_ret
    exact⟨rfl,⟨_,by rw[jx,L.o],(R.take _).grown (Ys _ _ _) (by simpa using A)⟩,(de w ⟨d,0,Z8⟩ _).trans (Ys _ _ _)⟩
 .rw[Rd.num_bad s j];have o:=rB d s.2 (.func (.func 274) #[] #[.pointer (Z9 ⟨w.heap.size,0,Z8⟩)]) b (w.alloc (.cells #[.int .u64 0] 243)) j h;have D:=lh R;have L:=lh H;clear j h R H;go_enter Tryz.func200,Tryz.ntmps200
  go_wp2_with ((with_reducible refine o.mono ?_);rintro e f ⟨rfl,rfl⟩)
  go_ret
  exact⟨rfl,⟨b,L.o,D.o.grown (Ys _ _ _) A⟩,Ys _ _ _⟩
end
section
open Go.RowKit
theorem gG(f:0<s.size):s.toList.isEmpty=ZW:=by
 have h:=ZO s;rw[Lib.toList_data];rcases H:s.data.toList with _|⟨c,r⟩
 .rw[show Z4 s=s.data.toList from rfl,H] at h;simp at h;omega
 .rfl
theorem ju(f:s.size=0):s.toList.isEmpty=ZZ:=by
 have h:=ZO s;rw[Lib.toList_data];rcases H:s.data.toList with _|⟨c,r⟩
 .rfl
 .rw[show Z4 s=s.data.toList from rfl,H] at h;simp at h;omega
theorem Bj(s:Z7)(y:Bool)(w:Z2)(H:0<s.size)(h:s[0].toNat=y.toNat)(o:w.cell? ⟨a,0,Z8⟩=Z9 v)(l:w.frozen? ⟨a,0,Z8⟩=ZW) :
 ZJ Z6 291 #[.string s,.pointer (Z9 ⟨a,0,Z8⟩)] w fun e f=>e=.returned (.int .i64 1)/\f=w.setCell ⟨a,0,Z8⟩ (.bool y):=by
 have E:decide ((1:Int)<(s[0].toNat:Int))=ZW:=by cases y <;> simp [h]
 have i:((s[0].toNat:Int)==1)=y:=by cases y <;> simp [h]
 have j:s.toList.isEmpty=ZW:=gG s H;clear h;go_enter Tryz.func291,Tryz.ntmps291
 go_wp2_with fail
 go_ret
 exact⟨rfl,rfl⟩
theorem Bi(H:s.size=0\/∃ h:0<s.size,1<s[0].toNat) :
 ZJ Z6 291 #[.string s,.pointer (Z9 ⟨a,0,Z8⟩)] w fun e f=>e=.returned (.int .i64 0)/\w=f:=by
 rcases H with h|⟨h,H⟩
 .have E:s.toList.isEmpty=ZZ:=ju s h;clear h;go_enter Tryz.func291,Tryz.ntmps291
  go_wp2_with fail
  go_ret
  exact⟨rfl,rfl⟩
 .have E:s.toList.isEmpty=ZW:=gG s h;have i:decide ((1:Int)<(s[0].toNat:Int))=ZZ:=by simp;omega
  go_enter Tryz.func291,Tryz.ntmps291
  go_wp2_with fail
  go_ret
  exact⟨rfl,rfl⟩
theorem yo(l:0<s.size)(i:s[0].toNat=y.toNat)(R:RD w d s 0)(H:a≠d)(q:w.cell? ⟨a,0,Z8⟩=Z9 v)(f:w.frozen? ⟨a,0,Z8⟩=ZW) :
 ZJ Z6 273 #[.pointer (Z9 ⟨d,0,Z8⟩),.func (.func 291) #[] #[.pointer (Z9 ⟨a,0,Z8⟩)]] w fun e j=>e=.returned (.tuple #[])/\j=(w.setCell ⟨a,0,Z8⟩ (.bool y)).setCell ⟨d,0,Z8⟩ (.string (s.extract 1 s.size)):=by
 have o:=Bj a v s y w l i q f;clear i;have h:=R.other a H (.bool y);obtain⟨C,u,f⟩:=R;obtain⟨D,z,p⟩:=h;have G:=p 0;go_enter Tryz.func273,Tryz.ntmps273
 go_wp2_with ((with_reducible refine o.mono ?_);rintro e j ⟨rfl,rfl⟩)
 go_end0
 exact⟨rfl,rfl⟩
theorem xY(i:s.size=0\/∃ o:0<s.size,1<s[0].toNat)(R:RD w d s 0) :
 ZJ Z6 273 #[.pointer (Z9 ⟨d,0,Z8⟩),.func (.func 291) #[] #[.pointer (Z9 ⟨a,0,Z8⟩)]] w fun e f=>e=.returned (.tuple #[])/\RD f d ⟨#[]⟩ 11/\w.grownBy f (Z9 d):=by
 have j:=Bi a s w i;clear i;have h:=mC d s 11 _ R;rw[show ((11:Nat):Int)=11 from rfl] at h;obtain⟨C,l,p⟩:=R;go_enter Tryz.func273,Tryz.ntmps273
 go_wp2_with (first|((with_reducible refine j.mono ?_);rintro e f ⟨rfl,rfl⟩)|((with_reducible refine h.mono ?_);rintro e f ⟨rfl,H,G⟩))
 exact Zd (WZ rfl _ _ _) rfl ⟨rfl,H,G⟩
theorem DN(s:Z5 ZP × Nat)(w:Z2)(N:s.1.length<=10000)(C:d<w.heap.size)(R:RL w d s) :
 ZJ Z6 237 #[.pointer (Z9 ⟨d,0,Z8⟩)] w fun e o=>e=.returned (.bool (Rd.boo s).1)/\RL o d (Rd.boo s).2/\w.grownBy o (Z9 d):=by
 obtain⟨b,H,R⟩:=R;have f:RD (w.alloc (.cells #[.bool ZW] 4)) d b s.2:=R.grown (Ys _ _ _) C;obtain⟨l,E⟩:=s;simp only at H R f N
 by_cases i:E=0
 .subst i;by_cases j:b.size=0\/∃ i:0<b.size,1<b[0].toNat
  .have p:Rd.boo (l,0)=(ZW,([],11)):=by
    unfold Rd.boo;rw[ZX rfl];rcases j with j|⟨i,j⟩
    .rw[<-ZO,H] at j;obtain rfl:l=[]:=List.eq_nil_of_length_eq_zero j;rfl
    .rw[Wf b 0 i] at j;rcases l with _|⟨c,r⟩
     .exact absurd i (by rw[<-ZO,H];simp)
     .simp only[H,WD] at j
      simp only;rw[ZX j]
   rw[p];have z:=xY d w.heap.size b (w.alloc (.cells #[.bool ZW] 4)) j f
   have A:∀ o,(w.alloc (.cells #[.bool ZW] 4)).grownBy o (Z9 d)->o.cell? ⟨w.heap.size,0,Z8⟩=Z9 (.bool ZW):=fun o G=>by
    rw[Z1 (a:=⟨w.heap.size,0,Z8⟩) (G.block w.heap.size (by simp) (by simp;omega))];simp [go_sem]
   have I:=lh A;clear A j p f;go_enter Tryz.func237,Tryz.ntmps237
   go_wp2_with ((with_reducible refine z.mono ?_);rintro e o ⟨rfl,B,G⟩;have D:=I.o o G;have J:=lh G;clear G)
   go_ret
   exact⟨rfl,⟨_,rfl,B⟩,(Ys _ _ _).trans J.o⟩
  .have i:0<b.size:=by
    rcases YC b.size with h|h
    .exact absurd (.inl h) j
    .exact h
   have K:b[0].toNat<=1:=by
    rcases YI 1 b[0].toNat with h|h
    .exact absurd (.inr ⟨i,h⟩) j
    .exact h
   have q:b[0].toNat=(decide (b[0].toNat=1)).toNat:=by
    rcases (by omega:b[0].toNat=0\/b[0].toNat=1) with h|h <;> rw[h] <;> rfl
   have p:Rd.boo (l,0)=(decide (b[0].toNat=1),(l.drop 1,0)):=by
    unfold Rd.boo;rw[ZX rfl];rcases l with _|⟨c,r⟩
    .exact absurd i (by rw[<-ZO,H];simp)
    .have e:b[0]=c:=by rw[Wf b 0 i];simp only[H,WD]
     simp only;rw[Z0 (by rw[<-e];omega),e];rfl
   rw[p];generalize decide (b[0].toNat=1)=y at q |-;have z:=yo d w.heap.size b y (.bool ZW) (w.alloc (.cells #[.bool ZW] 4)) i q f (by omega) (by simp [go_sem]) (by simp);have u:=f.other w.heap.size (by omega) (.bool y);have O:=u.1;have L:=lh H;clear j K q p f u H;go_enter Tryz.func237,Tryz.ntmps237
   go_wp2_with ((with_reducible refine z.mono ?_);rintro e o ⟨rfl,rfl⟩)
   go_ret
   exact⟨rfl,⟨_,by rw[jx,L.o],(R.take _).grown (Ys _ _ _) (by simpa using C)⟩,(de w ⟨d,0,Z8⟩ _).trans (Ys _ _ _)⟩
 .have p:Rd.boo (l,E)=(ZW,(l,E)):=by unfold Rd.boo;rw[Z0 i]
  rw[p];have z:=rB d E (.func (.func 291) #[] #[.pointer (Z9 ⟨w.heap.size,0,Z8⟩)]) b (w.alloc (.cells #[.bool ZW] 4)) i f;have F:=lh R;have L:=lh H;clear i f R H p;go_enter Tryz.func237,Tryz.ntmps237
  go_wp2_with ((with_reducible refine z.mono ?_);rintro e o ⟨rfl,rfl⟩)
  go_ret
  exact⟨rfl,⟨b,L.o,F.o.grown (Ys _ _ _) C⟩,Ys _ _ _⟩
end
section
open Go.RowKit
theorem Bk(s:Z5 ZP × Nat)(w:Z2)(J:s.1.length<=10000)(I:d<w.heap.size)(R:RL w d s)(N:m<=100000) :
 ZJ Z6 115 #[.pointer (Z9 ⟨d,0,Z8⟩),.int .i64 m] w fun e z=>e=.returned (.int .i64 (Rd.cnt m s).1)/\RL z d (Rd.cnt m s).2/\w.grownBy z (Z9 d):=by
 have j:=sJ d s w J I R;have O:IntKind.u64.wrap (m:Int)=(m:Int):=VN _ ⟨by omega,by omega⟩;have p:=Rd.num_lt s;by_cases i:(Rd.num s).2.2=0
 .by_cases q:m<(Rd.num s).1
  .have o:Rd.cnt m s=(0,([],8)):=by unfold Rd.cnt;rw[ZX i,ZX q]
   rw[o];rcases h:Rd.num s with ⟨x,l,E⟩
   rw[h] at j i q;simp only at i q j
   subst i;have F:decide ((m:Int)<(x:Int))=ZZ:=by simp;omega
   clear o h p;go_enter Tryz.func115,Tryz.ntmps115
   go_wp2_with (first|((with_reducible refine j.mono ?_);rintro e z ⟨rfl,⟨b,f,H⟩,G⟩;have D:=H.2.1;have u:=lh G;have B:=lh f;clear G f)|(go_at_call 116;(with_reducible refine (Bl d _ _ H).mono ?_);rintro e P ⟨rfl,C,A⟩))
   go_ret
   exact⟨rfl,⟨_,rfl,C⟩,u.o.trans A⟩
  .have o:Rd.cnt m s=Rd.num s:=by unfold Rd.cnt;rw[ZX i,Z0 q]
   rw[o];rcases h:Rd.num s with ⟨x,l,E⟩
   rw[h] at j i q;simp only at i q j
   subst i;have L:IntKind.i64.wrap (x:Int)=(x:Int):=IntWalk.i64_in _ ⟨by omega,by omega⟩;have F:decide ((m:Int)<(x:Int))=ZW:=by simp;omega
   clear o h p;go_enter Tryz.func115,Tryz.ntmps115
   go_wp2_with ((with_reducible refine j.mono ?_);rintro e z ⟨rfl,⟨b,f,H⟩,G⟩;have D:=H.2.1;have u:=lh G;have B:=lh f;clear G f)
   go_ret
   exact⟨rfl,⟨b,B.o,H⟩,u.o⟩
 .have o:Rd.cnt m s=(0,(Rd.num s).2):=by unfold Rd.cnt;rw[Z0 i]
  rw[o];rcases h:Rd.num s with ⟨x,l,E⟩
  rw[h] at j i;simp only at i j
  have F:((E:Int)==0)=ZW:=by simpa using i
  have K:((E:Int) != 0)=ZZ:=by simpa using i
  clear o h p i;go_enter Tryz.func115,Tryz.ntmps115
  go_wp2_with ((with_reducible refine j.mono ?_);rintro e z ⟨rfl,⟨b,f,H⟩,G⟩;have D:=H.2.1;have u:=lh G;have B:=lh f;clear G f)
  go_ret
  exact⟨rfl,⟨b,B.o,H⟩,u.o⟩
theorem DP(s:Z5 ZP × Nat)(w:Z2)(P:s.1.length<=10000)(L:d<w.heap.size)(R:RL w d s)(O:m<=100000) :
 ZJ Z6 46 #[.pointer (Z9 ⟨d,0,Z8⟩),.int .i64 m] w fun e C=>∃ t,e=.returned (.string t)/\Z4 t=(Rd.txt m s).1/\RL C d (Rd.txt m s).2/\w.grownBy C (Z9 d):=by
 have p:=Bk d m s w P L R O;have o:=Rd.cnt_len m s;by_cases i:(Rd.cnt m s).2.2=0
 .by_cases z:(Rd.cnt m s).2.1.length<(Rd.cnt m s).1
  .have q:Rd.txt m s=([],([],11)):=by unfold Rd.txt;rw[ZX i,ZX z]
   rw[q];have j:=Rd.cnt_le m s;rcases h:Rd.cnt m s with ⟨x,l,E⟩
   rw[h] at p i z o j;simp only at i z p o j
   subst i;clear q h;go_enter Tryz.func46,Tryz.ntmps46
   go_wp2_with (first|((with_reducible refine p.mono ?_);rintro e C ⟨rfl,⟨b,f,H⟩,G⟩;have K:=H.1;have I:=H.2.1;have A:=lh G;have u:b.size=l.length:=(by rw[<-ZO,f]);have J:decide (b.size<x)=ZZ:=(by rw[decide_eq_true_eq];omega);have B:=lh f;clear G f u)|(go_at_call 116;(with_reducible refine (Bc d _ _ H).mono ?_);rintro e U ⟨rfl,F,D⟩))
   go_ret
   exact⟨_,rfl,rfl,⟨_,rfl,F⟩,A.o.trans D⟩
  .have q:Rd.txt m s=((Rd.cnt m s).2.1.take (Rd.cnt m s).1,((Rd.cnt m s).2.1.drop (Rd.cnt m s).1,0)):=by unfold Rd.txt;rw[ZX i,Z0 z]
   rw[q];have j:=Rd.cnt_le m s;rcases h:Rd.cnt m s with ⟨x,l,E⟩
   rw[h] at p i z o j;simp only at i z p o j
   subst i;clear q h;go_enter Tryz.func46,Tryz.ntmps46
   go_wp2_with ((with_reducible refine p.mono ?_);rintro e C ⟨rfl,⟨b,f,H⟩,G⟩;have K:=H.1;have I:=H.2.1;have T:=H.2.2 0;have A:=lh G;have u:b.size=l.length:=(by rw[<-ZO,f]);have Q:x<=b.size:=(by omega);have N:b.size<=10000:=(by omega);have J:decide ((b.size:Int)<(x:Int))=ZW:=(by rw[decide_eq_false_iff_not];omega);have B:=lh f;clear G f u)
   go_ret
   exact⟨_,rfl,by rw[ur,B.o],⟨_,by rw[jx,B.o],H.take _⟩,A.o.trans (de _ ⟨d,0,Z8⟩ _)⟩
 .have q:Rd.txt m s=([],(Rd.cnt m s).2):=by unfold Rd.txt;rw[Z0 i]
  rw[q];rcases h:Rd.cnt m s with ⟨x,l,E⟩
  rw[h] at p i;simp only at i p
  have J:((E:Int)==0)=ZW:=by simpa using i
  have S:((E:Int) != 0)=ZZ:=by simpa using i
  clear q h o i;go_enter Tryz.func46,Tryz.ntmps46
  go_wp2_with ((with_reducible refine p.mono ?_);rintro e C ⟨rfl,⟨b,f,H⟩,G⟩;have I:=H.2.1;have A:=lh G;have B:=lh f;clear G f)
  go_ret
  exact⟨_,rfl,rfl,⟨b,B.o,H⟩,A.o⟩
theorem DO(s:Z5 ZP × Nat)(w:Z2)(H:RL w d s) :
 ZJ Z6 117 #[.pointer (Z9 ⟨d,0,Z8⟩)] w fun r j=>r=.returned (.bool (decide (s.2=0/\s.1≠[])))/\w=j:=by
 obtain⟨b,h,C,f,q⟩:=H;obtain⟨l,E⟩:=s;simp only at h C f
 rcases YC E with rfl|p
 .rcases l with _|⟨x,l⟩
  .have i:b.toList.isEmpty=ZZ:=ju b (by rw[<-ZO,h];rfl);clear h;go_enter Tryz.func117,Tryz.ntmps117
   go_wp2_with fail
   go_ret
   exact⟨rfl,rfl⟩
  .have i:b.toList.isEmpty=ZW:=gG b (by rw[<-ZO,h];simp);clear h;go_enter Tryz.func117,Tryz.ntmps117
   go_wp2_with fail
   go_ret
   exact⟨by simp,rfl⟩
 .have o:((E:Int)==0)=ZW:=by simp;omega
  go_enter Tryz.func117,Tryz.ntmps117
  go_wp2_with fail
  go_ret
  exact⟨by simp;omega,rfl⟩
theorem wl(s:Z5 ZP × Nat)(w:Z2)(R:RL w d s) :
 ZJ Z6 47 #[.pointer (Z9 ⟨d,0,Z8⟩)] w fun r i=>r=.returned (.int .i64 (Rd.fin s))/\w=i:=by
 have H:=DO d s w R;obtain⟨b,f,C,j,o⟩:=R;obtain⟨l,E⟩:=s;simp only at f C j H
 unfold Rd.fin;simp only
 by_cases h:E=0/\l≠[]
 .rw[ZX h];rw[decide_eq_true h] at H;clear h;go_enter Tryz.func47,Tryz.ntmps47
  go_wp2_with ((with_reducible refine H.mono ?_);rintro _ i ⟨rfl,rfl⟩)
  go_ret
  exact⟨rfl,rfl⟩
 .rw[Z0 h];rw[decide_eq_false h] at H;clear h;go_enter Tryz.func47,Tryz.ntmps47
  go_wp2_with ((with_reducible refine H.mono ?_);rintro _ i ⟨rfl,rfl⟩)
  go_ret
  exact⟨rfl,rfl⟩
end
end Go.Proofs.YtnkjliahpeebjaaGreatDoor
