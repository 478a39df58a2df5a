/- Catalogs. -/
import Derived.Test.YtnkjliahpeebjaaGreatDoorChecked
import Derived.Test.YtnkjliahpeebjaaGreatDoorShelf
import Derived.Test.YtnkjliahpeebjaaGreatDoorKit
import Derived.Lib.SmallJoins
set_option maxRecDepth 8000
set_option maxHeartbeats 400000
open Go.Proofs.Tryz renaming prog->Z6
open Go renaming World->Z2,Calls->ZJ
open Go.RowKit.Below renaming refl->ZM,trans->XY
open UInt8 renaming ofNat->Yc
open Go.Instr renaming index->Xc
open Nat renaming pow_succ->Wq
namespace Cal
variable(n y a m b d g f i:Int)
def leap(y:Int):Bool:=(y % 4==0&&y % 100 != 0) || y % 400==0
def lp(y:Int):Int:=if leap y=true then 1 else 0
def first(y:Int):Int:=365*(y - 2000)+(y - 2000+3) / 4 - (y - 2000+99) / 100+(y - 2000+399) / 400
def days(y m:Int):Int:=if m=2 then 28+lp y else if m=4\/m=6\/m=9\/m=11 then 30 else 31
def cum(y m:Int):Int :=
 if m<=1 then 0 else if m=2 then 31 else lp y+(if m=3 then 59 else if m=4 then 90 else if m=5 then 120 else if m=6 then 151 else if m=7 then 181 else if m=8 then 212
  else if m=9 then 243 else if m=10 then 273 else if m=11 then 304 else if m=12 then 334 else 365)
def num(y m d:Int):Int:=first y+cum y m+d - 1
theorem GT:(lp y=1/\(y % 4=0/\y % 100≠0\/y % 400=0))\/(lp y=0/\¬ (y % 4=0/\y % 100≠0\/y % 400=0)):=by
 unfold lp leap;by_cases h:y % 4=0/\y % 100≠0\/y % 400=0
 .left;refine⟨?_,h⟩;rw[if_pos];simpa using h
 .right;refine⟨?_,h⟩;rw[if_neg];simpa using h
theorem lp_01:0<=lp y/\lp y<=1:=by unfold lp;split <;> omega
theorem first_succ:first (y+1)=first y+365+lp y:=by
 unfold first
 rcases GT y with ⟨h,g⟩|⟨h,g⟩ <;> rw[h] <;> omega
theorem cum_succ(h:1<=m)(H:m<=12):cum y (m+1)=cum y m+days y m:=by
 have:m=1\/m=2\/m=3\/m=4\/m=5\/m=6\/m=7\/m=8\/m=9\/m=10\/m=11\/m=12:=by omega
 rcases this with rfl|rfl|rfl|rfl|rfl|rfl|rfl|rfl|rfl|rfl|rfl|rfl <;> simp [cum,days] <;> omega
theorem days_lo:28<=days y m/\days y m<=31:=by
 have:=lp_01 y;unfold days;split
 .omega
 .split <;> omega
theorem my(H:1<=a)(h:a<b)(c:b<=13):cum y a+days y a<=cum y b:=by
 have key:∀ k:Nat,a+1+k<=13->cum y a+days y a<=cum y (a+1+k):=by
  intro k
  induction k with
  | zero=>intro _;have:=cum_succ y a H (by omega);simp;omega
  | succ k I =>
    intro j;have i:=I (by omega);have:=cum_succ y (a+1+k) (by omega) (by omega);have:=days_lo y (a+1+k);have e:a+1+((k+1:Nat):Int)=a+1+k+1:=by omega
    rw[e];omega
 have:=key (b - (a+1)).toNat (by omega);have e:a+1+((b - (a+1)).toNat:Int)=b:=by omega
 rwa [e] at this
theorem cum_13:cum y 13=365+lp y:=by simp [cum];omega
theorem cum_1:cum y 1=0:=by simp [cum]
theorem cum_nonneg(h:1<=m)(H:m<=12):0<=cum y m:=by
 by_cases e:m=1
 .subst e;simp [cum]
 .have:=my y 1 m (by omega) (by omega) (by omega);have:=days_lo y 1;rw[cum_1] at *;omega
def Vld(y m d:Int):Prop:=1<=m/\m<=12/\1<=d/\d<=days y m
theorem mc(h:a<b):first a+365+lp a<=first b:=by
 rw[<-first_succ];unfold first
 omega
instance (y m d:Int):Decidable (Vld y m d):=by unfold Vld;infer_instance
theorem qa(h:Vld y m d):first y<=num y m d/\num y m d<first (y+1):=by
 obtain⟨H,c,e,j⟩:=h;have a:=my y m 13 H (by omega) (by omega);rw[cum_13] at a;have b:0<=cum y m:=cum_nonneg y m H c;rw[first_succ];unfold num;omega
theorem Ft(h:Vld y m d)(j:Vld g f i)(e:num y m d=num g f i):y=g/\m=f/\d=i:=by
 have a:=qa _ _ _ h;have A:=qa _ _ _ j
 have r:y=g:=by
  rcases Int.lt_trichotomy y g with c|c|c
  .have:=mc _ _ c;rw[first_succ] at a;omega
  .exact c
  .have:=mc _ _ c;rw[first_succ] at A;omega
 subst r;obtain⟨k,s,t,u⟩:=h;obtain⟨H,l,o,p⟩:=j
 have q:m=f:=by
  rcases Int.lt_trichotomy m f with c|c|c
  .have:=my y m f k c (by omega);unfold num at e;omega
  .exact c
  .have:=my y f m H c (by omega);unfold num at e;omega
 subst q;refine⟨rfl,rfl,?_⟩
 unfold num at e;omega
def nxt:Int × Int × Int->Int × Int × Int:=fun (y,m,d)=>if d<days y m then (y,m,d+1) else if m<12 then (y,m+1,1) else (y+1,1,1)
theorem Gm(h:Vld y m d):Vld (nxt (y,m,d)).1 (nxt (y,m,d)).2.1 (nxt (y,m,d)).2.2/\num (nxt (y,m,d)).1 (nxt (y,m,d)).2.1 (nxt (y,m,d)).2.2=num y m d+1:=by
 obtain⟨H,j,k,l⟩:=h;by_cases c:d<days y m
 .simp only[nxt,if_pos c];refine⟨⟨H,j,by omega,by omega⟩,by unfold num;omega⟩
 .by_cases C:m<12
  .simp only[nxt,if_neg c,if_pos C]
   have:=days_lo y (m+1);refine⟨⟨by omega,by omega,by omega,by omega⟩,?_⟩
   have:=cum_succ y m H (by omega);unfold num;omega
  .simp only[nxt,if_neg c,if_neg C]
   have:=days_lo (y+1) 1;refine⟨⟨by omega,by omega,by omega,by omega⟩,?_⟩
   have:=cum_succ y m H (by omega);have e:m=12:=by omega
   subst e;have E:cum y (12+1)=365+lp y:=cum_13 y;have:=first_succ y;have:=cum_1 (y+1);unfold num;omega
def gK:Nat->Int × Int × Int
 | 0=>(2000,1,1)
 | n+1=>nxt (gK n)
theorem yZ(n:Nat):Vld (gK n).1 (gK n).2.1 (gK n).2.2/\num (gK n).1 (gK n).2.1 (gK n).2.2=n:=by
 induction n with
 | zero=>exact⟨⟨by decide,by decide,by decide,by decide⟩,by decide⟩
 | succ n I =>
   obtain⟨a,b⟩:=I;have:=Gm _ _ _ a;refine⟨this.1,?_⟩
   have h:=this.2;rw[b] at h;simpa [gK] using h
def isDay(n:Int):Bool:=decide (0<=n)&&decide (n<=65536)
theorem isDay_iff:isDay n=true↔0<=n/\n<=65536:=by simp [isDay]
def dY(n:Int):Int:=if isDay n=true then (gK n.toNat).1 else 0
def dM(n:Int):Int:=if isDay n=true then (gK n.toNat).2.1 else 0
def dD(n:Int):Int:=if isDay n=true then (gK n.toNat).2.2 else 0
theorem date_no(h:isDay n=false):dY n=0/\dM n=0/\dD n=0:=by simp [dY,dM,dD,h]
theorem date_vld(h:isDay n=true):Vld (dY n) (dM n) (dD n)/\num (dY n) (dM n) (dD n)=n:=by
 have k:=yZ n.toNat;have H:=(isDay_iff n).1 h;have e:(n.toNat:Int)=n:=by omega
 rw[e] at k;simpa [dY,dM,dD,h] using k
theorem date_is(h:isDay n=true)(v:Vld y m d)(e:num y m d=n):dY n=y/\dM n=m/\dD n=d:=by
 have k:=date_vld n h;exact Ft _ _ _ _ _ _ k.1 v (by rw[k.2,e])
theorem dY_range(h:isDay n=true):2000<=dY n/\dY n<=2179:=by
 have k:=date_vld n h;have l:=qa _ _ _ k.1;rw[k.2] at l;have H:=(isDay_iff n).1 h;constructor
 .rcases Int.lt_or_le (dY n) 2000 with c|c
  .rcases Int.lt_or_le (dY n+1) 2000 with C|C
   .have:=mc (dY n+1) 2000 C;have:=lp_01 (dY n+1);have e:first 2000=0:=by decide
    omega
   .have e:dY n+1=2000:=by omega
    rw[e] at l;have e:first 2000=0:=by decide
    omega
  .exact c
 .rcases Int.lt_or_le 2179 (dY n) with c|c
  .have:first 2180<=first (dY n):=by
    rcases Int.lt_or_le 2180 (dY n) with C|C
    .have:=mc 2180 (dY n) C;have:=lp_01 2180;omega
    .have:dY n=2180:=by omega
     rw[this];omega
   have e:first 2180=65744:=by decide
   omega
  .exact c
theorem first_guess(h:0<=n):first (2000+n / 366)<=n:=by unfold first;omega
theorem first_bd(h:2000<=y)(H:y<=3000):0<=first y/\first y<=366*(y - 2000):=by unfold first;omega
def ld(n:Nat):Nat->List UInt8
 | 0=>[]
 | j+1=>Yc (48+n / 10 ^ j % 10)::ld n j
theorem ld_length(n j:Nat):(ld n j).length=j:=by induction j <;> simp [ld, *]
theorem ld_snoc(n j:Nat):ld n (j+1)=ld (n / 10) j++[Yc (48+n % 10)]:=by
 induction j with
 | zero=>simp [ld]
 | succ j I =>
   rw[ld,I];conv=>rhs;rw[ld]
   rw[Nat.div_div_eq_div_mul,Wq,Nat.mul_comm];rfl
theorem ld_mod(n m j:Nat)(h:n % 10 ^ j=m % 10 ^ j):ld n j=ld m j:=by
 induction j with
 | zero=>rfl
 | succ j I =>
   have e:∀ a:Nat,a / 10 ^ j % 10=a % 10 ^ (j+1) / 10 ^ j:=fun a=>by rw[Wq,Nat.mod_mul_right_div_self]
   have E:∀ a:Nat,a % 10 ^ j=a % 10 ^ (j+1) % 10 ^ j:=fun a=>by rw[Wq,Nat.mod_mul_right_mod]
   rw[ld,ld,e n,e m,h,I (by rw[E n,E m,h])]
end Cal
namespace Cal
def fmt(n:Int):List UInt8:=if isDay n=true then ld (dY n).toNat 4++[45]++ld (dM n).toNat 2++[45]++ld (dD n).toNat 2 else []
theorem fmt_no(n:Int)(h:isDay n=false):fmt n=[]:=by simp [fmt,h]
theorem fmt_yes(n:Int)(h:isDay n=true):fmt n=ld (dY n).toNat 4++[45]++ld (dM n).toNat 2++[45]++ld (dD n).toNat 2:=by simp [fmt,h]
def jm(s:ByteArray)(i:Nat):Nat:=if h:i<s.size then (s[i]).toNat else 0
def reached(l n:Int):Bool:=decide (0<l)&&decide (l<=n)
def fits(c u e t:Int):Bool:=isDay c&&isDay u&&isDay e&&isDay t
def expired(c u e t:Int):Bool:=fits c u e t&&(decide (e=0) || decide (e<=t))
def policy(k u A:Int):Bool:=isDay k&&isDay u&&isDay A
def dec(k U A c u e:Int)(r:Bool)(t:Int):Int :=
 if (policy k U A&&fits c u e t)=true then
  if (expired c u e t&&(reached k (t - c) || r&&reached A (t - max c u)))=true then 2
  else if (!r&&reached U (t - max c u))=true then 1 else 0
 else 0
end Cal
namespace Go.Proofs.YtnkjliahpeebjaaGreatDoor
variable(J m:Nat)(n y z:Int)(w:Z2)
section
open Go.RowKit
def Tab(w : Z2) : Prop := Lib.TabIs Z6 w "internal/strconv.uint64pow10" .u64 Lib.pow10Tab
theorem kJ : Tryz.prog.globalNamed "internal/strconv.uint64pow10" = some 3 := by kernel_rfl
theorem Tab.below{w W:Z2}(h:Tab w)(H:Below w.heap.size w W):Tab W:=Joins.tab_stays kJ h H (Nat.le_refl _)
theorem yV(k:Nat)(o:Array Obj):Below w.heap.size w (Sort.grow (w.drewN k) o):=by
 refine⟨rfl,rfl,rfl,?_,?_⟩
 .simp [Sort.grow,World.drewN]
 .intro i h;simp [Sort.grow,World.drewN,Array.getElem?_append,h]
theorem itoa(h:-9223372036854775808<=n)(H:n<=9223372036854775807)(T:Tab w) :
 ZJ Z6 318 #[.int .i64 n] w fun e W=>e=.returned (.string ⟨(Lib.itoa n).toArray⟩)/\Below w.heap.size w W :=
 (Tryz.strconv_Itoa n h H w T).mono fun _ _ ⟨c,k,o,j⟩=>⟨c,j ▸ yV w k o⟩
theorem ER(n:Nat)(c:10 ^ J<=n)(H:n<10 ^ (J+1)):Lib.itoa n=Cal.ld n (J+1):=by
 rw[Lib.itoa_nonneg]
 induction J generalizing n with
 | zero =>
   have h:n<10:=by simpa using H
   rw[Lib.decDigits,dif_pos h];simp [Cal.ld,Nat.mod_eq_of_lt h]
 | succ J I =>
   have p:1<=10 ^ J:=Nat.one_le_pow _ _ (by decide);rw[Wq] at c H;rw[Lib.decDigits,dif_neg (by omega),I (n / 10) (by omega) (by rw[Wq] at H |-;omega),Cal.ld_snoc n (J+1)]
theorem vY(n:Nat)(w:Z2)(H:10 ^ J<=n)(c:n<10 ^ (J+1))(j:J<=17)(T:Tab w) :
 ZJ Z6 318 #[.int .i64 n] w fun e W=>e=.returned (.string ⟨(Cal.ld n (J+1)).toArray⟩)/\Below w.heap.size w W:=by
 have:10 ^ (J+1)<=10 ^ 18:=Nat.pow_le_pow_right (by omega) (by omega);have h:=itoa n w (by omega) (by omega) T;rwa [ER J n H c] at h
end
section
open Go.RowKit
theorem calleap(h:0<=y)(H:y<=100000) :
 ZJ Z6 343 #[.int .i64 y] w fun e W=>e=.returned (.bool (Cal.leap y))/\w=W:=by
 go_enter Tryz.func343,Tryz.ntmps343
 go_wp2
 all_goals (go_ret;exact⟨aF (by simp [Cal.leap, *]),rfl⟩)
theorem isDay(y:Int)(w:Z2) :
 ZJ Z6 315 #[.int .i64 y] w fun e W=>e=.returned (.bool (Cal.isDay y))/\w=W:=by
 go_enter Tryz.func315,Tryz.ntmps315
 go_wp2
 all_goals (go_ret;exact⟨aF (by simp [Cal.isDay];try omega),rfl⟩)
theorem first(y:Int)(w:Z2)(h:2000<=y)(H:y<=100000) :
 ZJ Z6 336 #[.int .i64 y] w fun e W=>e=.returned (.int .i64 (Cal.first y))/\w=W:=by
 go_enter Tryz.func336,Tryz.ntmps336
 go_wp2
 go_ret
 exact⟨gM (by simp only[Cal.first]),rfl⟩
theorem lengths(h:0<=y)(H:y<=100000) :
 ZJ Z6 337 #[.int .i64 y] w fun e W=>e=.returned (.agg #[.int .i64 31,.int .i64 (28+Cal.lp y),.int .i64 31,.int .i64 30,.int .i64 31,.int .i64 30,.int .i64 31,.int .i64 31,.int .i64 30,.int .i64 31,.int .i64 30,.int .i64 31])/\Below w.heap.size w W:=by
 go_enter Tryz.func337,Tryz.ntmps337
 go_wp2_with (go_at_call 343;refine (calleap _ _ h H).mono ?_;rintro e W ⟨rfl,rfl⟩)
 all_goals
  refine bodyPost_ret (v:=.agg #[.int .i64 31,.int .i64 (28+Cal.lp y),.int .i64 31,.int .i64 30,.int .i64 31,.int .i64 30,.int .i64 31,.int .i64 31,.int .i64 30,.int .i64 31,.int .i64 30,.int .i64 31]) (by simp [results,Tryz.results337,go_sem,Cal.lp, *]) rfl ⟨rfl,?_⟩
  (repeat (first|exact ZM _ _|assumption|(refine Below.drew ?_)|(refine Below.alloc ?_ (by simp) _)|(refine Below.setCell ?_ (by simp) _)))
end
section
open Go.RowKit
theorem yO(m:Int)(H:0<=m)(t:m<12)(w:Z2) :
 (Xc 351 (.agg #[.int .i64 31,.int .i64 (28+Cal.lp y),.int .i64 31,.int .i64 30,.int .i64 31,.int .i64 30,.int .i64 31,.int .i64 31,.int .i64 30,.int .i64 31,.int .i64 30,.int .i64 31]) (.int .i64 m)).run Z6 w=.ok (.int .i64 (Cal.days y (m+1))) w:=by
 have e:(Xc 351 (.agg #[.int .i64 31,.int .i64 (28+Cal.lp y),.int .i64 31,.int .i64 30,.int .i64 31,.int .i64 30,.int .i64 31,.int .i64 31,.int .i64 30,.int .i64 31,.int .i64 30,.int .i64 31]) (.int .i64 0)).run Z6 w=.ok (.int .i64 (31)) w:=by kernel_rfl
 have h:(Xc 351 (.agg #[.int .i64 31,.int .i64 (28+Cal.lp y),.int .i64 31,.int .i64 30,.int .i64 31,.int .i64 30,.int .i64 31,.int .i64 31,.int .i64 30,.int .i64 31,.int .i64 30,.int .i64 31]) (.int .i64 1)).run Z6 w=.ok (.int .i64 (28+Cal.lp y)) w:=by kernel_rfl
 have j:(Xc 351 (.agg #[.int .i64 31,.int .i64 (28+Cal.lp y),.int .i64 31,.int .i64 30,.int .i64 31,.int .i64 30,.int .i64 31,.int .i64 31,.int .i64 30,.int .i64 31,.int .i64 30,.int .i64 31]) (.int .i64 2)).run Z6 w=.ok (.int .i64 (31)) w:=by kernel_rfl
 have k:(Xc 351 (.agg #[.int .i64 31,.int .i64 (28+Cal.lp y),.int .i64 31,.int .i64 30,.int .i64 31,.int .i64 30,.int .i64 31,.int .i64 31,.int .i64 30,.int .i64 31,.int .i64 30,.int .i64 31]) (.int .i64 3)).run Z6 w=.ok (.int .i64 (30)) w:=by kernel_rfl
 have l:(Xc 351 (.agg #[.int .i64 31,.int .i64 (28+Cal.lp y),.int .i64 31,.int .i64 30,.int .i64 31,.int .i64 30,.int .i64 31,.int .i64 31,.int .i64 30,.int .i64 31,.int .i64 30,.int .i64 31]) (.int .i64 4)).run Z6 w=.ok (.int .i64 (31)) w:=by kernel_rfl
 have o:(Xc 351 (.agg #[.int .i64 31,.int .i64 (28+Cal.lp y),.int .i64 31,.int .i64 30,.int .i64 31,.int .i64 30,.int .i64 31,.int .i64 31,.int .i64 30,.int .i64 31,.int .i64 30,.int .i64 31]) (.int .i64 5)).run Z6 w=.ok (.int .i64 (30)) w:=by kernel_rfl
 have p:(Xc 351 (.agg #[.int .i64 31,.int .i64 (28+Cal.lp y),.int .i64 31,.int .i64 30,.int .i64 31,.int .i64 30,.int .i64 31,.int .i64 31,.int .i64 30,.int .i64 31,.int .i64 30,.int .i64 31]) (.int .i64 6)).run Z6 w=.ok (.int .i64 (31)) w:=by kernel_rfl
 have q:(Xc 351 (.agg #[.int .i64 31,.int .i64 (28+Cal.lp y),.int .i64 31,.int .i64 30,.int .i64 31,.int .i64 30,.int .i64 31,.int .i64 31,.int .i64 30,.int .i64 31,.int .i64 30,.int .i64 31]) (.int .i64 7)).run Z6 w=.ok (.int .i64 (31)) w:=by kernel_rfl
 have r:(Xc 351 (.agg #[.int .i64 31,.int .i64 (28+Cal.lp y),.int .i64 31,.int .i64 30,.int .i64 31,.int .i64 30,.int .i64 31,.int .i64 31,.int .i64 30,.int .i64 31,.int .i64 30,.int .i64 31]) (.int .i64 8)).run Z6 w=.ok (.int .i64 (30)) w:=by kernel_rfl
 have s:(Xc 351 (.agg #[.int .i64 31,.int .i64 (28+Cal.lp y),.int .i64 31,.int .i64 30,.int .i64 31,.int .i64 30,.int .i64 31,.int .i64 31,.int .i64 30,.int .i64 31,.int .i64 30,.int .i64 31]) (.int .i64 9)).run Z6 w=.ok (.int .i64 (31)) w:=by kernel_rfl
 have I:(Xc 351 (.agg #[.int .i64 31,.int .i64 (28+Cal.lp y),.int .i64 31,.int .i64 30,.int .i64 31,.int .i64 30,.int .i64 31,.int .i64 31,.int .i64 30,.int .i64 31,.int .i64 30,.int .i64 31]) (.int .i64 10)).run Z6 w=.ok (.int .i64 (30)) w:=by kernel_rfl
 have c:(Xc 351 (.agg #[.int .i64 31,.int .i64 (28+Cal.lp y),.int .i64 31,.int .i64 30,.int .i64 31,.int .i64 30,.int .i64 31,.int .i64 31,.int .i64 30,.int .i64 31,.int .i64 30,.int .i64 31]) (.int .i64 11)).run Z6 w=.ok (.int .i64 (31)) w:=by kernel_rfl
 have:m=0\/m=1\/m=2\/m=3\/m=4\/m=5\/m=6\/m=7\/m=8\/m=9\/m=10\/m=11:=by omega
 rcases this with rfl|rfl|rfl|rfl|rfl|rfl|rfl|rfl|rfl|rfl|rfl|rfl
 .rw[e];simp [Cal.days]
 .rw[h];simp [Cal.days]
 .rw[j];simp [Cal.days]
 .rw[k];simp [Cal.days]
 .rw[l];simp [Cal.days]
 .rw[o];simp [Cal.days]
 .rw[p];simp [Cal.days]
 .rw[q];simp [Cal.days]
 .rw[r];simp [Cal.days]
 .rw[s];simp [Cal.days]
 .rw[I];simp [Cal.days]
 .rw[c];simp [Cal.days]
theorem date_no(h:Cal.isDay n=false) :
 ZJ Z6 316 #[.int .i64 n] w fun e W=>e=.returned (.tuple #[.int .i64 0,.int .i64 0,.int .i64 0])/\Below w.heap.size w W:=by
 go_enter Tryz.func316,Tryz.ntmps316
 go_wp2_with (go_at_call 315;(with_reducible refine (isDay _ _).mono ?_);rintro e W ⟨rfl,rfl⟩)
 go_ret3
 exact⟨rfl,ZM _ _⟩
theorem BU(h:Cal.isDay n=true) :
 ZJ Z6 316 #[.int .i64 n] w fun e W=>e=.returned (.tuple #[.int .i64 (Cal.dY n),.int .i64 (Cal.dM n),.int .i64 (Cal.dD n)])/\Below w.heap.size w W:=by
 obtain⟨q,P⟩:=(Cal.isDay_iff n).1 h;have G:=Cal.first_guess n q;go_enter Tryz.func316,Tryz.ntmps316
 go_wp2_with (go_at_call 315;(with_reducible refine (isDay _ _).mono ?_);rintro e W ⟨rfl,rfl⟩)
 go_loop [5] (fun t=>∃ y:Int,2000<=y/\y<=2180/\Cal.first y<=n/\t=.int .i64 y) (fun t=>(3000 - intOf t).toNat)
 case atStart=>exact⟨_,by omega,by omega,G,rfl⟩
 case round =>
  obtain⟨y,l,x,A,rfl⟩:=hrel;have I:=Cal.first_bd y l (by omega);have K:=Cal.first_bd (y+1) (by omega) (by omega);have F:=Cal.first_succ y;have L:=Cal.lp_01 y;have O:=Cal.first_bd 2180 (by omega) (by omega);have p:=lh F;clear F G;by_cases r:Cal.first (y+1)<=n
  .go_wp2_with (go_at_call 336;(with_reducible refine (first _ _ (by omega) (by omega)).mono ?_);rintro e W ⟨rfl,rfl⟩)
   go_round
   case rel=>
    have:y≠2180:=by
     rintro rfl;have e:Cal.first (2180+1)=66110:=by decide
     omega
    exact⟨y+1,by omega,by omega,r,rfl⟩
   case measure=>simp [intOf];omega
  .go_wp2_with (first|(go_at_call 336;(with_reducible refine (first _ _ (by omega) (by omega)).mono ?_);rintro e W ⟨rfl,rfl⟩)|(go_at_call 337;(with_reducible refine (lengths _ _ (by omega) (by omega)).mono ?_);rintro e T ⟨rfl,o⟩))
   have v:=Cal.cum_1 y;have N:Cal.isDay n=true:=h;have B:=lh o;clear o h;go_loop [0,27] (fun d k=>∃ m:Int,0<=m/\m<=12/\k=.int .i64 m/\0<=n - Cal.first y - Cal.cum y (m+1)/\d=.int .i64 (n - Cal.first y - Cal.cum y (m+1))) (fun _ k=>(12 - intOf k).toNat)
   case atStart=>exact⟨0,by omega,by omega,rfl,by simp only[Int.zero_add,v];omega,by simp only[Int.zero_add,v,Int.sub_zero]⟩
   case round =>
    obtain⟨m,j,u,rfl,S,rfl⟩:=hrel;clear v;by_cases s:m<12
    .have R:=fun w=>yO y m j s w
     have C:=Cal.cum_succ y (m+1) (by omega) (by omega);have E:=Cal.days_lo y (m+1);have D:=Cal.cum_nonneg y (m+1) (by omega) (by omega);by_cases Q:n - Cal.first y - Cal.cum y (m+1)<Cal.days y (m+1)
     .have H:=lh C;clear C;go_wp2
      go_ret3
      have c:=Cal.date_is n y (m+1) (n - Cal.first y - Cal.cum y (m+1)+1) N ⟨by omega,by omega,by omega,by omega⟩ (by unfold Cal.num;omega);exact⟨ret3 c.1.symm c.2.1.symm c.2.2.symm,B.o⟩
     .have H:=lh C;clear C;go_wp2
      go_round
      case rel=>exact⟨m+1,by omega,by omega,rfl,by rw[H.o];omega,by rw[H.o];go_num⟩
      case measure=>simp [intOf];omega
    .exfalso
     obtain rfl:m=12:=by omega
     have e:Cal.cum y (12+1)=365+Cal.lp y:=Cal.cum_13 y;have:=p.o;omega
end
section
open Go.RowKit
end
section
open Go.RowKit
theorem AK :
 ZJ Z6 316 #[.int .i64 n] w fun e W=>e=.returned (.tuple #[.int .i64 (Cal.dY n),.int .i64 (Cal.dM n),.int .i64 (Cal.dD n)])/\Below w.heap.size w W:=by
 cases h:Cal.isDay n with
 | true=>exact BU n w h
 | false=>have k:=Cal.date_no n h;rw[k.1,k.2.1,k.2.2];exact date_no n w h
end
section
open Go.RowKit
theorem Bq(c:m<=99)(h:Tab w) :
 ZJ Z6 318 #[.int .i64 ((m:Int)+100)] w fun e W=>e=.returned (.string ⟨#[49,Yc (48+m / 10 ^ 1 % 10),Yc (48+m / 10 ^ 0 % 10)]⟩)/\Below w.heap.size w W:=by
 have H:=vY 2 (m+100) w (by omega) (by omega) (by omega) h
 have e:Cal.ld (m+100) 3=[49,Yc (48+m / 10 ^ 1 % 10),Yc (48+m / 10 ^ 0 % 10)]:=by
  rw[Cal.ld,Cal.ld_mod (m+100) m 2 (by omega)];rw[show (m+100) / 10 ^ 2 % 10=1 by omega];rfl
 rwa [e] at H
theorem two(c:m<=99)(h:Tab w) :
 ZJ Z6 317 #[.int .i64 m] w fun e W=>e=.returned (.string ⟨(Cal.ld m 2).toArray⟩)/\Below w.heap.size w W:=by
 go_enter Tryz.func317,Tryz.ntmps317
 go_wp2_with (go_at_call 318;(with_reducible refine (Bq _ _ c h).mono ?_);rintro e j ⟨rfl,H⟩)
 go_ret
 exact⟨iD (ByteArray.ext (by simp [Cal.ld])),H⟩
theorem IE(H:0<=z)(c:z<=99)(h:Tab w) :
 ZJ Z6 317 #[.int .i64 z] w fun e W=>e=.returned (.string ⟨(Cal.ld z.toNat 2).toArray⟩)/\Below w.heap.size w W:=by
 have e:z=((z.toNat:Nat):Int):=by omega
 rw[e];simp only[Int.toNat_natCast];exact two z.toNat w (by omega) h
theorem Ga(H:1000<=z)(c:z<=9999)(h:Tab w) :
 ZJ Z6 318 #[.int .i64 z] w fun e W=>e=.returned (.string ⟨(Cal.ld z.toNat 4).toArray⟩)/\Below w.heap.size w W:=by
 have e:z=((z.toNat:Nat):Int):=by omega
 rw[e];simp only[Int.toNat_natCast];exact vY 3 z.toNat w (by omega) (by omega) (by omega) h
theorem zh(T:Tab w) :
 ZJ Z6 289 #[.int .i64 n] w fun e W=>e=.returned (.string ⟨(Cal.fmt n).toArray⟩)/\Below w.heap.size w W:=by
 cases h:Cal.isDay n with
 | false =>
   go_enter Tryz.func289,Tryz.ntmps289
   go_wp2_with (go_at_call 315;(with_reducible refine (isDay _ _).mono ?_);rintro e W ⟨rfl,rfl⟩)
   go_ret
   exact⟨by rw[Cal.fmt_no n h];rfl,ZM _ _⟩
 | true =>
   have Y:=Cal.dY_range n h;obtain⟨⟨p,q,D,j⟩,-⟩:=Cal.date_vld n h;have k:=Cal.days_lo (Cal.dY n) (Cal.dM n);have o:=Cal.ld_length (Cal.dY n).toNat 4;have L:=Cal.ld_length (Cal.dM n).toNat 2;have l:=Cal.ld_length (Cal.dD n).toNat 2;have B:=ZM w.heap.size w;go_enter Tryz.func289,Tryz.ntmps289
   go_wp2_with (first|(go_at_call 315;(with_reducible refine (isDay _ _).mono ?_);rintro e W ⟨rfl,rfl⟩)|(go_at_call 316;(with_reducible refine (AK _ _).mono ?_);rintro e c ⟨rfl,H⟩;have T:=Tab.below T H;have B:=XY B (H.mono B.size);clear H)|(go_at_call 318;(with_reducible refine (Ga _ _ (by omega) (by omega) T).mono ?_);rintro e c ⟨rfl,H⟩;have T:=Tab.below T H;have B:=XY B (H.mono B.size);clear H)|(go_at_call 317;(with_reducible refine (IE _ _ (by omega) (by omega) T).mono ?_);rintro e c ⟨rfl,H⟩;have T:=Tab.below T H;have B:=XY B (H.mono B.size);clear H))
   go_ret
   exact⟨iD (by rw[Cal.fmt_yes n h];apply ByteArray.ext;simp),B⟩
end
end Go.Proofs.YtnkjliahpeebjaaGreatDoor
