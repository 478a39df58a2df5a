/- Catalogs. -/
import Derived.Test.YtefcmdmfgdcpmaaGreatDoorChecked
import Derived.Test.YtefcmdmfgdcpmaaGreatDoorShelf
import Derived.Test.YtefcmdmfgdcpmaaGreatDoorKit
import Derived.Lib.SmallJoins
set_option maxRecDepth 8000
set_option maxHeartbeats 400000
namespace Cal
def leap(y:Int):Bool:=(y % 4==0&&y % 100 != 0) || y % 400==0
def lp(y:Int):Int:=if leap y=true then 1 else 0
def first(y:Int):Int:=365*(y - 2000)+(y - 2000+3) / 4 - (y - 2000+99) / 100+(y - 2000+399) / 400
def days(y m:Int):Int:=if m=2 then 28+lp y else if m=4∨m=6∨m=9∨m=11 then 30 else 31
def cum(y m:Int):Int :=
 if m<=1 then 0 else if m=2 then 31 else lp y+(if m=3 then 59 else if m=4 then 90 else if m=5 then 120 else if m=6 then 151 else if m=7 then 181 else if m=8 then 212
  else if m=9 then 243 else if m=10 then 273 else if m=11 then 304 else if m=12 then 334 else 365)
def num(y m d:Int):Int:=first y+cum y m+d - 1
theorem zvI(y:Int):(lp y=1∧(y % 4=0∧y % 100≠0∨y % 400=0))∨(lp y=0∧¬ (y % 4=0∧y % 100≠0∨y % 400=0)):=by
 unfold lp leap;by_cases h:y % 4=0∧y % 100≠0∨y % 400=0
 · left;refine⟨?_,h⟩;rw[if_pos];simpa using h
 · right;refine⟨?_,h⟩;rw[if_neg];simpa using h
theorem lp_01(y:Int):0<=lp y∧lp y<=1:=by unfold lp;split <;> omega
theorem first_succ(y:Int):first (y+1)=first y+365+lp y:=by
 unfold first
 rcases zvI y with ⟨h,g⟩|⟨h,g⟩ <;> rw[h] <;> omega
theorem cum_succ(y m:Int)(h1:1<=m)(h2:m<=12):cum y (m+1)=cum y m+days y m:=by
 have:m=1∨m=2∨m=3∨m=4∨m=5∨m=6∨m=7∨m=8∨m=9∨m=10∨m=11∨m=12:=by omega
 rcases this with rfl|rfl|rfl|rfl|rfl|rfl|rfl|rfl|rfl|rfl|rfl|rfl <;> simp [cum,days] <;> omega
theorem days_lo(y m:Int):28<=days y m∧days y m<=31:=by
 have:=lp_01 y;unfold days;split
 · omega
 · split <;> omega
theorem zeY(y a b:Int)(h1:1<=a)(h:a<b)(h2:b<=13):cum y a+days y a<=cum y b:=by
 have key:∀ k:Nat,a+1+k<=13->cum y a+days y a<=cum y (a+1+k):=by
  intro k
  induction k with
  | zero=>intro _;have:=cum_succ y a h1 (by omega);simp;omega
  | succ k ih =>
    intro hk;have i:=ih (by omega);have:=cum_succ y (a+1+k) (by omega) (by omega);have:=days_lo y (a+1+k);have e:a+1+((k+1:Nat):Int)=a+1+k+1:=by omega
    rw[e];omega
 have:=key (b - (a+1)).toNat (by omega);have e:a+1+((b - (a+1)).toNat:Int)=b:=by omega
 rwa [e] at this
theorem cum_13(y:Int):cum y 13=365+lp y:=by simp [cum];omega
theorem cum_1(y:Int):cum y 1=0:=by simp [cum]
theorem cum_nonneg(y m:Int)(h1:1<=m)(h2:m<=12):0<=cum y m:=by
 by_cases e:m=1
 · subst e;simp [cum]
 · have:=zeY y 1 m (by omega) (by omega) (by omega);have:=days_lo y 1;rw[cum_1] at *;omega
def Vld(y m d:Int):Prop:=1<=m∧m<=12∧1<=d∧d<=days y m
theorem zdq(a b:Int)(h:a<b):first a+365+lp a<=first b:=by
 rw[<-first_succ];unfold first
 omega
instance (y m d:Int):Decidable (Vld y m d):=by unfold Vld;infer_instance
theorem zmU(y m d:Int)(h:Vld y m d):first y<=num y m d∧num y m d<first (y+1):=by
 obtain⟨h1,h2,h3,h4⟩:=h;have a:=zeY y m 13 h1 (by omega) (by omega);rw[cum_13] at a;have b:0<=cum y m:=cum_nonneg y m h1 h2;rw[first_succ];unfold num;omega
theorem ztm(y m d y' m' d':Int)(h:Vld y m d)(h':Vld y' m' d')(e:num y m d=num y' m' d'):y=y'∧m=m'∧d=d':=by
 have a:=zmU _ _ _ h;have a':=zmU _ _ _ h'
 have hy:y=y':=by
  rcases Int.lt_trichotomy y y' with c|c|c
  · have:=zdq _ _ c;rw[first_succ] at a;omega
  · exact c
  · have:=zdq _ _ c;rw[first_succ] at a';omega
 subst hy;obtain⟨h1,h2,h3,h4⟩:=h;obtain⟨h1',h2',h3',h4'⟩:=h'
 have hm:m=m':=by
  rcases Int.lt_trichotomy m m' with c|c|c
  · have:=zeY y m m' h1 c (by omega);unfold num at e;omega
  · exact c
  · have:=zeY y m' m h1' c (by omega);unfold num at e;omega
 subst hm;refine⟨rfl,rfl,?_⟩
 unfold num at e;omega
def nxt:Int × Int × Int->Int × Int × Int:=fun (y,m,d)=>if d<days y m then (y,m,d+1) else if m<12 then (y,m+1,1) else (y+1,1,1)
theorem zuu(y m d:Int)(h:Vld y m d):Vld (nxt (y,m,d)).1 (nxt (y,m,d)).2.1 (nxt (y,m,d)).2.2∧num (nxt (y,m,d)).1 (nxt (y,m,d)).2.1 (nxt (y,m,d)).2.2=num y m d+1:=by
 obtain⟨h1,h2,h3,h4⟩:=h;by_cases c:d<days y m
 · simp only[nxt,if_pos c];refine⟨⟨h1,h2,by omega,by omega⟩,by unfold num;omega⟩
 · by_cases c2:m<12
   · simp only[nxt,if_neg c,if_pos c2]
     have:=days_lo y (m+1);refine⟨⟨by omega,by omega,by omega,by omega⟩,?_⟩
     have:=cum_succ y m h1 (by omega);unfold num;omega
   · simp only[nxt,if_neg c,if_neg c2]
     have:=days_lo (y+1) 1;refine⟨⟨by omega,by omega,by omega,by omega⟩,?_⟩
     have:=cum_succ y m h1 (by omega);have e:m=12:=by omega
     subst e;have e2:cum y (12+1)=365+lp y:=cum_13 y;have:=first_succ y;have:=cum_1 (y+1);unfold num;omega
def zcs:Nat->Int × Int × Int
 | 0=>(2000,1,1)
 | n+1=>nxt (zcs n)
theorem zkw(n:Nat):Vld (zcs n).1 (zcs n).2.1 (zcs n).2.2∧num (zcs n).1 (zcs n).2.1 (zcs n).2.2=n:=by
 induction n with
 | zero=>exact⟨⟨by decide,by decide,by decide,by decide⟩,by decide⟩
 | succ n ih =>
   obtain⟨a,b⟩:=ih;have:=zuu _ _ _ a;refine⟨this.1,?_⟩
   have h:=this.2;rw[b] at h;simpa [zcs] using h
def isDay(n:Int):Bool:=decide (0<=n)&&decide (n<=65536)
theorem isDay_iff(n:Int):isDay n=true↔0<=n∧n<=65536:=by simp [isDay]
def dY(n:Int):Int:=if isDay n=true then (zcs n.toNat).1 else 0
def dM(n:Int):Int:=if isDay n=true then (zcs n.toNat).2.1 else 0
def dD(n:Int):Int:=if isDay n=true then (zcs n.toNat).2.2 else 0
theorem date_no(n:Int)(h:isDay n=false):dY n=0∧dM n=0∧dD n=0:=by simp [dY,dM,dD,h]
theorem date_vld(n:Int)(h:isDay n=true):Vld (dY n) (dM n) (dD n)∧num (dY n) (dM n) (dD n)=n:=by
 have k:=zkw n.toNat;have h':=(isDay_iff n).1 h;have e:(n.toNat:Int)=n:=by omega
 rw[e] at k;simpa [dY,dM,dD,h] using k
theorem date_is(n y m d:Int)(h:isDay n=true)(v:Vld y m d)(e:num y m d=n):dY n=y∧dM n=m∧dD n=d:=by
 have k:=date_vld n h;exact ztm _ _ _ _ _ _ k.1 v (by rw[k.2,e])
theorem dY_range(n:Int)(h:isDay n=true):2000<=dY n∧dY n<=2179:=by
 have k:=date_vld n h;have l:=zmU _ _ _ k.1;rw[k.2] at l;have h':=(isDay_iff n).1 h;constructor
 · rcases Int.lt_or_le (dY n) 2000 with c|c
   · rcases Int.lt_or_le (dY n+1) 2000 with c'|c'
     · have:=zdq (dY n+1) 2000 c';have:=lp_01 (dY n+1);have e:first 2000=0:=by decide
       omega
     · have e:dY n+1=2000:=by omega
       rw[e] at l;have e:first 2000=0:=by decide
       omega
   · exact c
 · rcases Int.lt_or_le 2179 (dY n) with c|c
   · have:first 2180<=first (dY n):=by
      rcases Int.lt_or_le 2180 (dY n) with c'|c'
      · have:=zdq 2180 (dY n) c';have:=lp_01 2180;omega
      · have:dY n=2180:=by omega
        rw[this];omega
     have e:first 2180=65744:=by decide
     omega
   · exact c
theorem first_guess(n:Int)(h0:0<=n):first (2000+n / 366)<=n:=by unfold first;omega
theorem first_bd(y:Int)(h0:2000<=y)(h1:y<=3000):0<=first y∧first y<=366*(y - 2000):=by unfold first;omega
def ld(n:Nat):Nat->List UInt8
 | 0=>[]
 | j+1=>UInt8.ofNat (48+n / 10 ^ j % 10)::ld n j
theorem ld_length(n j:Nat):(ld n j).length=j:=by induction j <;> simp [ld, *]
theorem ld_snoc(n j:Nat):ld n (j+1)=ld (n / 10) j++[UInt8.ofNat (48+n % 10)]:=by
 induction j with
 | zero=>simp [ld]
 | succ j ih =>
   rw[ld,ih];conv=>rhs;rw[ld]
   rw[Nat.div_div_eq_div_mul,Nat.pow_succ,Nat.mul_comm];rfl
theorem ld_mod(n m j:Nat)(h:n % 10 ^ j=m % 10 ^ j):ld n j=ld m j:=by
 induction j with
 | zero=>rfl
 | succ j ih =>
   have e:∀ a:Nat,a / 10 ^ j % 10=a % 10 ^ (j+1) / 10 ^ j:=fun a=>by rw[Nat.pow_succ,Nat.mod_mul_right_div_self]
   have e2:∀ a:Nat,a % 10 ^ j=a % 10 ^ (j+1) % 10 ^ j:=fun a=>by rw[Nat.pow_succ,Nat.mod_mul_right_mod]
   rw[ld,ld,e n,e m,h,ih (by rw[e2 n,e2 m,h])]
end Cal
namespace Cal
def fmt(n:Int):List UInt8:=if isDay n=true then ld (dY n).toNat 4++[45]++ld (dM n).toNat 2++[45]++ld (dD n).toNat 2 else []
theorem fmt_no(n:Int)(h:isDay n=false):fmt n=[]:=by simp [fmt,h]
theorem fmt_yes(n:Int)(h:isDay n=true):fmt n=ld (dY n).toNat 4++[45]++ld (dM n).toNat 2++[45]++ld (dD n).toNat 2:=by simp [fmt,h]
def at_(s:ByteArray)(i:Nat):Nat:=if h:i<s.size then (s[i]).toNat else 0
def reached(limit n:Int):Bool:=decide (0<limit)&&decide (limit<=n)
def fits(cr us ex t:Int):Bool:=isDay cr&&isDay us&&isDay ex&&isDay t
def expired(cr us ex t:Int):Bool:=fits cr us ex t&&(decide (ex=0) || decide (ex<=t))
def policy(ke un ac:Int):Bool:=isDay ke&&isDay un&&isDay ac
def dec(ke un ac cr us ex:Int)(ar:Bool)(t:Int):Int :=
 if (policy ke un ac&&fits cr us ex t)=true then
  if (expired cr us ex t&&(reached ke (t - cr) || ar&&reached ac (t - max cr us)))=true then 2
  else if (!ar&&reached un (t - max cr us))=true then 1 else 0
 else 0
end Cal
namespace Go.Proofs.YtefcmdmfgdcpmaaGreatDoor
section
open Go.RowKit
def Tab(w : World) : Prop := Lib.TabIs Tryz.prog w "internal/strconv.uint64pow10" .u64 Lib.pow10Tab
theorem gTab : Tryz.prog.globalNamed "internal/strconv.uint64pow10" = some 3 := by kernel_rfl
theorem Tab.below{w w':World}(h:Tab w)(hb:Below w.heap.size w w'):Tab w':=Joins.tab_stays gTab h hb (Nat.le_refl _)
theorem zks(w:World)(k:Nat)(os:Array Obj):Below w.heap.size w (Sort.grow (w.drewN k) os):=by
 refine⟨rfl,rfl,rfl,?_,?_⟩
 · simp [Sort.grow,World.drewN]
 · intro i hi;simp [Sort.grow,World.drewN,Array.getElem?_append,hi]
theorem itoa(n:Int)(w:World)(h0:-9223372036854775808<=n)(h1:n<=9223372036854775807)(hT:Tab w) :
  Calls Tryz.prog 258 #[.int .i64 n] w fun e w'=>e=.returned (.string ⟨(Lib.itoa n).toArray⟩)∧Below w.heap.size w w' :=
 (Tryz.strconv_Itoa n h0 h1 w hT).mono fun _ _ ⟨he,k,os,hw⟩=>⟨he,hw ▸ zks w k os⟩
theorem zrY(J n:Nat)(h0:10 ^ J<=n)(h1:n<10 ^ (J+1)):Lib.itoa n=Cal.ld n (J+1):=by
 rw[Lib.itoa_nonneg]
 induction J generalizing n with
 | zero =>
   have h1':n<10:=by simpa using h1
   rw[Lib.decDigits,dif_pos h1'];simp [Cal.ld,Nat.mod_eq_of_lt h1']
 | succ J ih =>
   have hp:1<=10 ^ J:=Nat.one_le_pow _ _ (by decide);rw[Nat.pow_succ] at h0 h1;rw[Lib.decDigits,dif_neg (by omega),ih (n / 10) (by omega) (by rw[Nat.pow_succ] at h1 ⊢;omega),Cal.ld_snoc n (J+1)]
theorem zp5(J n:Nat)(w:World)(h0:10 ^ J<=n)(h1:n<10 ^ (J+1))(hJ:J<=17)(hT:Tab w) :
  Calls Tryz.prog 258 #[.int .i64 n] w fun e w'=>e=.returned (.string ⟨(Cal.ld n (J+1)).toArray⟩)∧Below w.heap.size w w':=by
 have:10 ^ (J+1)<=10 ^ 18:=Nat.pow_le_pow_right (by omega) (by omega);have h:=itoa n w (by omega) (by omega) hT;rwa [zrY J n h0 h1] at h
end
section
open Go.RowKit
theorem calleap(y:Int)(w:World)(h0:0<=y)(h1:y<=100000) :
  Calls Tryz.prog 289 #[.int .i64 y] w fun e w'=>e=.returned (.bool (Cal.leap y))∧w=w':=by
 go_enter Tryz.func289,Tryz.ntmps289
 go_wp2
 all_goals (go_ret;exact⟨zaF (by simp [Cal.leap, *]),rfl⟩)
theorem isDay(y:Int)(w:World) :
  Calls Tryz.prog 255 #[.int .i64 y] w fun e w'=>e=.returned (.bool (Cal.isDay y))∧w=w':=by
 go_enter Tryz.func255,Tryz.ntmps255
 go_wp2
 all_goals (go_ret;exact⟨zaF (by simp [Cal.isDay];try omega),rfl⟩)
theorem first(y:Int)(w:World)(h0:2000<=y)(h1:y<=100000) :
  Calls Tryz.prog 281 #[.int .i64 y] w fun e w'=>e=.returned (.int .i64 (Cal.first y))∧w=w':=by
 go_enter Tryz.func281,Tryz.ntmps281
 go_wp2
 go_ret
 exact⟨zeE (by simp only[Cal.first]),rfl⟩
theorem lengths(y:Int)(w:World)(h0:0<=y)(h1:y<=100000) :
  Calls Tryz.prog 282 #[.int .i64 y] w fun e w'=>e=.returned (.agg #[.int .i64 31,.int .i64 (28+Cal.lp y),.int .i64 31,.int .i64 30,.int .i64 31,.int .i64 30,.int .i64 31,.int .i64 31,.int .i64 30,.int .i64 31,.int .i64 30,.int .i64 31])∧Below w.heap.size w w':=by
 go_enter Tryz.func282,Tryz.ntmps282
 go_wp2_with (go_at_call 289;refine (calleap _ _ h0 h1).mono ?_;rintro e w' ⟨rfl,rfl⟩)
 all_goals
  refine bodyPost_ret (v:=.agg #[.int .i64 31,.int .i64 (28+Cal.lp y),.int .i64 31,.int .i64 30,.int .i64 31,.int .i64 30,.int .i64 31,.int .i64 31,.int .i64 30,.int .i64 31,.int .i64 30,.int .i64 31]) (by simp [results,Tryz.results282,go_sem,Cal.lp, *]) rfl ⟨rfl,?_⟩
  (repeat (first|exact Below.refl _ _|assumption|(refine Below.drew ?_)|(refine Below.alloc ?_ (by simp) _)|(refine Below.setCell ?_ (by simp) _)))
end
section
open Go.RowKit
theorem zkJ(y m:Int)(h0:0<=m)(h1:m<12)(w:World) :
  (Instr.index 288 (.agg #[.int .i64 31,.int .i64 (28+Cal.lp y),.int .i64 31,.int .i64 30,.int .i64 31,.int .i64 30,.int .i64 31,.int .i64 31,.int .i64 30,.int .i64 31,.int .i64 30,.int .i64 31]) (.int .i64 m)).run Tryz.prog w=.ok (.int .i64 (Cal.days y (m+1))) w:=by
 have i0:(Instr.index 288 (.agg #[.int .i64 31,.int .i64 (28+Cal.lp y),.int .i64 31,.int .i64 30,.int .i64 31,.int .i64 30,.int .i64 31,.int .i64 31,.int .i64 30,.int .i64 31,.int .i64 30,.int .i64 31]) (.int .i64 0)).run Tryz.prog w=.ok (.int .i64 (31)) w:=by kernel_rfl
 have i1:(Instr.index 288 (.agg #[.int .i64 31,.int .i64 (28+Cal.lp y),.int .i64 31,.int .i64 30,.int .i64 31,.int .i64 30,.int .i64 31,.int .i64 31,.int .i64 30,.int .i64 31,.int .i64 30,.int .i64 31]) (.int .i64 1)).run Tryz.prog w=.ok (.int .i64 (28+Cal.lp y)) w:=by kernel_rfl
 have i2:(Instr.index 288 (.agg #[.int .i64 31,.int .i64 (28+Cal.lp y),.int .i64 31,.int .i64 30,.int .i64 31,.int .i64 30,.int .i64 31,.int .i64 31,.int .i64 30,.int .i64 31,.int .i64 30,.int .i64 31]) (.int .i64 2)).run Tryz.prog w=.ok (.int .i64 (31)) w:=by kernel_rfl
 have i3:(Instr.index 288 (.agg #[.int .i64 31,.int .i64 (28+Cal.lp y),.int .i64 31,.int .i64 30,.int .i64 31,.int .i64 30,.int .i64 31,.int .i64 31,.int .i64 30,.int .i64 31,.int .i64 30,.int .i64 31]) (.int .i64 3)).run Tryz.prog w=.ok (.int .i64 (30)) w:=by kernel_rfl
 have i4:(Instr.index 288 (.agg #[.int .i64 31,.int .i64 (28+Cal.lp y),.int .i64 31,.int .i64 30,.int .i64 31,.int .i64 30,.int .i64 31,.int .i64 31,.int .i64 30,.int .i64 31,.int .i64 30,.int .i64 31]) (.int .i64 4)).run Tryz.prog w=.ok (.int .i64 (31)) w:=by kernel_rfl
 have i5:(Instr.index 288 (.agg #[.int .i64 31,.int .i64 (28+Cal.lp y),.int .i64 31,.int .i64 30,.int .i64 31,.int .i64 30,.int .i64 31,.int .i64 31,.int .i64 30,.int .i64 31,.int .i64 30,.int .i64 31]) (.int .i64 5)).run Tryz.prog w=.ok (.int .i64 (30)) w:=by kernel_rfl
 have i6:(Instr.index 288 (.agg #[.int .i64 31,.int .i64 (28+Cal.lp y),.int .i64 31,.int .i64 30,.int .i64 31,.int .i64 30,.int .i64 31,.int .i64 31,.int .i64 30,.int .i64 31,.int .i64 30,.int .i64 31]) (.int .i64 6)).run Tryz.prog w=.ok (.int .i64 (31)) w:=by kernel_rfl
 have i7:(Instr.index 288 (.agg #[.int .i64 31,.int .i64 (28+Cal.lp y),.int .i64 31,.int .i64 30,.int .i64 31,.int .i64 30,.int .i64 31,.int .i64 31,.int .i64 30,.int .i64 31,.int .i64 30,.int .i64 31]) (.int .i64 7)).run Tryz.prog w=.ok (.int .i64 (31)) w:=by kernel_rfl
 have i8:(Instr.index 288 (.agg #[.int .i64 31,.int .i64 (28+Cal.lp y),.int .i64 31,.int .i64 30,.int .i64 31,.int .i64 30,.int .i64 31,.int .i64 31,.int .i64 30,.int .i64 31,.int .i64 30,.int .i64 31]) (.int .i64 8)).run Tryz.prog w=.ok (.int .i64 (30)) w:=by kernel_rfl
 have i9:(Instr.index 288 (.agg #[.int .i64 31,.int .i64 (28+Cal.lp y),.int .i64 31,.int .i64 30,.int .i64 31,.int .i64 30,.int .i64 31,.int .i64 31,.int .i64 30,.int .i64 31,.int .i64 30,.int .i64 31]) (.int .i64 9)).run Tryz.prog w=.ok (.int .i64 (31)) w:=by kernel_rfl
 have i10:(Instr.index 288 (.agg #[.int .i64 31,.int .i64 (28+Cal.lp y),.int .i64 31,.int .i64 30,.int .i64 31,.int .i64 30,.int .i64 31,.int .i64 31,.int .i64 30,.int .i64 31,.int .i64 30,.int .i64 31]) (.int .i64 10)).run Tryz.prog w=.ok (.int .i64 (30)) w:=by kernel_rfl
 have i11:(Instr.index 288 (.agg #[.int .i64 31,.int .i64 (28+Cal.lp y),.int .i64 31,.int .i64 30,.int .i64 31,.int .i64 30,.int .i64 31,.int .i64 31,.int .i64 30,.int .i64 31,.int .i64 30,.int .i64 31]) (.int .i64 11)).run Tryz.prog w=.ok (.int .i64 (31)) w:=by kernel_rfl
 have:m=0∨m=1∨m=2∨m=3∨m=4∨m=5∨m=6∨m=7∨m=8∨m=9∨m=10∨m=11:=by omega
 rcases this with rfl|rfl|rfl|rfl|rfl|rfl|rfl|rfl|rfl|rfl|rfl|rfl
 · rw[i0];simp [Cal.days]
 · rw[i1];simp [Cal.days]
 · rw[i2];simp [Cal.days]
 · rw[i3];simp [Cal.days]
 · rw[i4];simp [Cal.days]
 · rw[i5];simp [Cal.days]
 · rw[i6];simp [Cal.days]
 · rw[i7];simp [Cal.days]
 · rw[i8];simp [Cal.days]
 · rw[i9];simp [Cal.days]
 · rw[i10];simp [Cal.days]
 · rw[i11];simp [Cal.days]
theorem date_no(n:Int)(w:World)(h:Cal.isDay n=false) :
  Calls Tryz.prog 256 #[.int .i64 n] w fun e w'=>e=.returned (.tuple #[.int .i64 0,.int .i64 0,.int .i64 0])∧Below w.heap.size w w':=by
 go_enter Tryz.func256,Tryz.ntmps256
 go_wp2_with (go_at_call 255;(with_reducible refine (isDay _ _).mono ?_);rintro e w' ⟨rfl,rfl⟩)
 go_ret3
 exact⟨rfl,Below.refl _ _⟩
theorem zn3(n:Int)(w:World)(h:Cal.isDay n=true) :
  Calls Tryz.prog 256 #[.int .i64 n] w fun e w'=>e=.returned (.tuple #[.int .i64 (Cal.dY n),.int .i64 (Cal.dM n),.int .i64 (Cal.dD n)])∧Below w.heap.size w w':=by
 obtain⟨h0,h1⟩:=(Cal.isDay_iff n).1 h;have g0:=Cal.first_guess n h0;go_enter Tryz.func256,Tryz.ntmps256
 go_wp2_with (go_at_call 255;(with_reducible refine (isDay _ _).mono ?_);rintro e w' ⟨rfl,rfl⟩)
 go_loop [5] (fun t=>∃ y:Int,2000<=y∧y<=2180∧Cal.first y<=n∧t=.int .i64 y) (fun t=>(3000 - intOf t).toNat)
 case atStart=>exact⟨_,by omega,by omega,g0,rfl⟩
 case round =>
  obtain⟨y,hy1,hy2,hy3,rfl⟩:=hrel;have f1:=Cal.first_bd y hy1 (by omega);have f2:=Cal.first_bd (y+1) (by omega) (by omega);have f3:=Cal.first_succ y;have f4:=Cal.lp_01 y;have f5:=Cal.first_bd 2180 (by omega) (by omega);have F3:=lh f3;clear f3 g0;by_cases hc:Cal.first (y+1)<=n
  · go_wp2_with (go_at_call 281;(with_reducible refine (first _ _ (by omega) (by omega)).mono ?_);rintro e w' ⟨rfl,rfl⟩)
    go_round
    case rel=>
     have:y≠2180:=by
      rintro rfl;have e:Cal.first (2180+1)=66110:=by decide
      omega
     exact⟨y+1,by omega,by omega,hc,rfl⟩
    case measure=>simp [intOf];omega
  · go_wp2_with (first|(go_at_call 281;(with_reducible refine (first _ _ (by omega) (by omega)).mono ?_);rintro e w' ⟨rfl,rfl⟩)|(go_at_call 282;(with_reducible refine (lengths _ _ (by omega) (by omega)).mono ?_);rintro e w1 ⟨rfl,hb⟩))
    have v1:=Cal.cum_1 y;have nn:Cal.isDay n=true:=h;have HB:=lh hb;clear hb h;go_loop [0,27] (fun d k=>∃ m:Int,0<=m∧m<=12∧k=.int .i64 m∧0<=n - Cal.first y - Cal.cum y (m+1)∧d=.int .i64 (n - Cal.first y - Cal.cum y (m+1))) (fun _ k=>(12 - intOf k).toNat)
    case atStart=>exact⟨0,by omega,by omega,rfl,by simp only[Int.zero_add,v1];omega,by simp only[Int.zero_add,v1,Int.sub_zero]⟩
    case round =>
     obtain⟨m,hm0,hm1,rfl,hr,rfl⟩:=hrel;clear v1;by_cases hm:m<12
     · have hi:=fun w=>zkJ y m hm0 hm w
       have cs:=Cal.cum_succ y (m+1) (by omega) (by omega);have dl:=Cal.days_lo y (m+1);have cn:=Cal.cum_nonneg y (m+1) (by omega) (by omega);by_cases hd:n - Cal.first y - Cal.cum y (m+1)<Cal.days y (m+1)
       · have H:=lh cs;clear cs;go_wp2
         go_ret3
         have hdi:=Cal.date_is n y (m+1) (n - Cal.first y - Cal.cum y (m+1)+1) nn ⟨by omega,by omega,by omega,by omega⟩ (by unfold Cal.num;omega);exact⟨ret3 hdi.1.symm hdi.2.1.symm hdi.2.2.symm,HB.out⟩
       · have H:=lh cs;clear cs;go_wp2
         go_round
         case rel=>exact⟨m+1,by omega,by omega,rfl,by rw[H.out];omega,by rw[H.out];go_num⟩
         case measure=>simp [intOf];omega
     · exfalso
       obtain rfl:m=12:=by omega
       have e:Cal.cum y (12+1)=365+Cal.lp y:=Cal.cum_13 y;have:=F3.out;omega
end
section
open Go.RowKit
end
section
open Go.RowKit
theorem zn2(n:Int)(w:World) :
  Calls Tryz.prog 256 #[.int .i64 n] w fun e w'=>e=.returned (.tuple #[.int .i64 (Cal.dY n),.int .i64 (Cal.dM n),.int .i64 (Cal.dD n)])∧Below w.heap.size w w':=by
 cases h:Cal.isDay n with
 | true=>exact zn3 n w h
 | false=>have k:=Cal.date_no n h;rw[k.1,k.2.1,k.2.2];exact date_no n w h
end
section
open Go.RowKit
theorem zox(m:Nat)(w:World)(hm:m<=99)(hT:Tab w) :
  Calls Tryz.prog 258 #[.int .i64 ((m:Int)+100)] w fun e w'=>e=.returned (.string ⟨#[49,UInt8.ofNat (48+m / 10 ^ 1 % 10),UInt8.ofNat (48+m / 10 ^ 0 % 10)]⟩)∧Below w.heap.size w w':=by
 have hi:=zp5 2 (m+100) w (by omega) (by omega) (by omega) hT
 have e:Cal.ld (m+100) 3=[49,UInt8.ofNat (48+m / 10 ^ 1 % 10),UInt8.ofNat (48+m / 10 ^ 0 % 10)]:=by
  rw[Cal.ld,Cal.ld_mod (m+100) m 2 (by omega)];rw[show (m+100) / 10 ^ 2 % 10=1 by omega];rfl
 rwa [e] at hi
theorem two(m:Nat)(w:World)(hm:m<=99)(hT:Tab w) :
  Calls Tryz.prog 257 #[.int .i64 m] w fun e w'=>e=.returned (.string ⟨(Cal.ld m 2).toArray⟩)∧Below w.heap.size w w':=by
 go_enter Tryz.func257,Tryz.ntmps257
 go_wp2_with (go_at_call 258;(with_reducible refine (zox _ _ hm hT).mono ?_);rintro e w1 ⟨rfl,hb⟩)
 go_ret
 exact⟨zfD (ByteArray.ext (by simp [Cal.ld])),hb⟩
theorem zwd(z:Int)(w:World)(h0:0<=z)(h1:z<=99)(hT:Tab w) :
  Calls Tryz.prog 257 #[.int .i64 z] w fun e w'=>e=.returned (.string ⟨(Cal.ld z.toNat 2).toArray⟩)∧Below w.heap.size w w':=by
 have e:z=((z.toNat:Nat):Int):=by omega
 rw[e];simp only[Int.toNat_natCast];exact two z.toNat w (by omega) hT
theorem zuc(z:Int)(w:World)(h0:1000<=z)(h1:z<=9999)(hT:Tab w) :
  Calls Tryz.prog 258 #[.int .i64 z] w fun e w'=>e=.returned (.string ⟨(Cal.ld z.toNat 4).toArray⟩)∧Below w.heap.size w w':=by
 have e:z=((z.toNat:Nat):Int):=by omega
 rw[e];simp only[Int.toNat_natCast];exact zp5 3 z.toNat w (by omega) (by omega) (by omega) hT
theorem zkz(n:Int)(w:World)(hT:Tab w) :
  Calls Tryz.prog 205 #[.int .i64 n] w fun e w'=>e=.returned (.string ⟨(Cal.fmt n).toArray⟩)∧Below w.heap.size w w':=by
 cases h:Cal.isDay n with
 | false =>
   go_enter Tryz.func205,Tryz.ntmps205
   go_wp2_with (go_at_call 255;(with_reducible refine (isDay _ _).mono ?_);rintro e w' ⟨rfl,rfl⟩)
   go_ret
   exact⟨by rw[Cal.fmt_no n h];rfl,Below.refl _ _⟩
 | true =>
   have yr:=Cal.dY_range n h;obtain⟨⟨m1,m2,d1,d2⟩,-⟩:=Cal.date_vld n h;have dl:=Cal.days_lo (Cal.dY n) (Cal.dM n);have ly:=Cal.ld_length (Cal.dY n).toNat 4;have lm:=Cal.ld_length (Cal.dM n).toNat 2;have ldd:=Cal.ld_length (Cal.dD n).toNat 2;have B:=Below.refl w.heap.size w;go_enter Tryz.func205,Tryz.ntmps205
   go_wp2_with (first|(go_at_call 255;(with_reducible refine (isDay _ _).mono ?_);rintro e w' ⟨rfl,rfl⟩)|(go_at_call 256;(with_reducible refine (zn2 _ _).mono ?_);rintro e w1 ⟨rfl,hb⟩;have hT:=Tab.below hT hb;have B:=Below.trans B (hb.mono B.size);clear hb)|(go_at_call 258;(with_reducible refine (zuc _ _ (by omega) (by omega) hT).mono ?_);rintro e w1 ⟨rfl,hb⟩;have hT:=Tab.below hT hb;have B:=Below.trans B (hb.mono B.size);clear hb)|(go_at_call 257;(with_reducible refine (zwd _ _ (by omega) (by omega) hT).mono ?_);rintro e w1 ⟨rfl,hb⟩;have hT:=Tab.below hT hb;have B:=Below.trans B (hb.mono B.size);clear hb))
   go_ret
   exact⟨zfD (by rw[Cal.fmt_yes n h];apply ByteArray.ext;simp),B⟩
end
end Go.Proofs.YtefcmdmfgdcpmaaGreatDoor
