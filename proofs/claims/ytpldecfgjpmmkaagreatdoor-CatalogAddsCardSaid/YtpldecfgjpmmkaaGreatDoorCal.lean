/- Several texts in one: Cal CalP. -/
section
namespace Cal
def leap (y:Int):Bool:=(y % 4==0&&y % 100 != 0) || y % 400==0
def lp (y:Int):Int:=if leap y=true then 1 else 0
def first (y:Int):Int:=365*(y - 2000)+(y - 2000+3) / 4 - (y - 2000+99) / 100+(y - 2000+399) / 400
def days (y m:Int):Int:=if m=2 then 28+lp y else if m=4∨m=6∨m=9∨m=11 then 30 else 31
def cum (y m:Int):Int :=
 if m≤1 then 0 else if m=2 then 31 else lp y+(if m=3 then 59 else if m=4 then 90 else if m=5 then 120 else if m=6 then 151 else if m=7 then 181 else if m=8 then 212
  else if m=9 then 243 else if m=10 then 273 else if m=11 then 304 else if m=12 then 334 else 365)
def num (y m d:Int):Int:=first y+cum y m+d - 1
theorem lp_eq (y:Int):(lp y=1∧(y % 4=0∧y % 100≠0∨y % 400=0))∨(lp y=0∧¬ (y % 4=0∧y % 100≠0∨y % 400=0)):=by
 unfold lp leap
 by_cases h:y % 4=0∧y % 100≠0∨y % 400=0
 · left;refine⟨?_,h⟩;rw[if_pos];simpa using h
 · right;refine⟨?_,h⟩;rw[if_neg];simpa using h
theorem lp_01 (y:Int):0≤lp y∧lp y≤1:=by unfold lp;split <;> omega
theorem first_succ (y:Int):first (y+1)=first y+365+lp y:=by
 unfold first
 rcases lp_eq y with ⟨h,g⟩ | ⟨h,g⟩ <;> rw[h] <;> omega
theorem cum_succ (y m:Int) (h1:1≤m) (h2:m≤12):cum y (m+1)=cum y m+days y m:=by
 have:m=1∨m=2∨m=3∨m=4∨m=5∨m=6∨m=7∨m=8∨m=9∨m=10∨m=11∨m=12:=by omega
 rcases this with rfl | rfl | rfl | rfl | rfl | rfl | rfl | rfl | rfl | rfl | rfl | rfl <;> simp [cum,days] <;> omega
theorem days_lo (y m:Int):28≤days y m∧days y m≤31:=by
 have:=lp_01 y
 unfold days;split
 · omega
 · split <;> omega
theorem cum_mono (y a b:Int) (h1:1≤a) (h:a<b) (h2:b≤13):cum y a+days y a≤cum y b:=by
 have key:∀ k:Nat,a+1+k≤13→cum y a+days y a≤cum y (a+1+k):=by
  intro k
  induction k with
  | zero=>intro _;have:=cum_succ y a h1 (by omega);simp;omega
  | succ k ih =>
    intro hk
    have i:=ih (by omega)
    have:=cum_succ y (a+1+k) (by omega) (by omega)
    have:=days_lo y (a+1+k)
    have e:a+1+((k+1:Nat):Int)=a+1+k+1:=by omega
    rw[e];omega
 have:=key (b - (a+1)).toNat (by omega)
 have e:a+1+((b - (a+1)).toNat:Int)=b:=by omega
 rwa [e] at this
theorem cum_13 (y:Int):cum y 13=365+lp y:=by simp [cum];omega
theorem cum_1 (y:Int):cum y 1=0:=by simp [cum]
theorem cum_nonneg (y m:Int) (h1:1≤m) (h2:m≤12):0≤cum y m:=by
 by_cases e:m=1
 · subst e;simp [cum]
 · have:=cum_mono y 1 m (by omega) (by omega) (by omega)
   have:=days_lo y 1
   rw[cum_1] at *;omega
def Vld (y m d:Int):Prop:=1≤m∧m≤12∧1≤d∧d≤days y m
theorem first_mono (a b:Int) (h:a<b):first a+365+lp a≤first b:=by
 rw[← first_succ]
 unfold first
 omega
instance (y m d:Int):Decidable (Vld y m d):=by unfold Vld;infer_instance
theorem num_lo (y m d:Int) (h:Vld y m d):first y≤num y m d∧num y m d<first (y+1):=by
 obtain⟨h1,h2,h3,h4⟩:=h
 have a:=cum_mono y m 13 h1 (by omega) (by omega)
 rw[cum_13] at a
 have b:0≤cum y m:=cum_nonneg y m h1 h2
 rw[first_succ];unfold num;omega
theorem vld_inj (y m d y' m' d':Int) (h:Vld y m d) (h':Vld y' m' d') (e:num y m d=num y' m' d'):y=y'∧m=m'∧d=d':=by
 have a:=num_lo _ _ _ h
 have a':=num_lo _ _ _ h'
 have hy:y=y':=by
  rcases Int.lt_trichotomy y y' with c | c | c
  · have:=first_mono _ _ c;rw[first_succ] at a;omega
  · exact c
  · have:=first_mono _ _ c;rw[first_succ] at a';omega
 subst hy
 obtain⟨h1,h2,h3,h4⟩:=h
 obtain⟨h1',h2',h3',h4'⟩:=h'
 have hm:m=m':=by
  rcases Int.lt_trichotomy m m' with c | c | c
  · have:=cum_mono y m m' h1 c (by omega);unfold num at e;omega
  · exact c
  · have:=cum_mono y m' m h1' c (by omega);unfold num at e;omega
 subst hm
 refine⟨rfl,rfl,?_⟩
 unfold num at e;omega
def nxt:Int × Int × Int→Int × Int × Int:=fun (y,m,d)=>if d<days y m then (y,m,d+1) else if m<12 then (y,m+1,1) else (y+1,1,1)
theorem nxt_ok (y m d:Int) (h:Vld y m d):Vld (nxt (y,m,d)).1 (nxt (y,m,d)).2.1 (nxt (y,m,d)).2.2∧num (nxt (y,m,d)).1 (nxt (y,m,d)).2.1 (nxt (y,m,d)).2.2=num y m d+1:=by
 obtain⟨h1,h2,h3,h4⟩:=h
 by_cases c:d<days y m
 · simp only[nxt,if_pos c];refine⟨⟨h1,h2,by omega,by omega⟩,by unfold num;omega⟩
 · by_cases c2:m<12
   · simp only[nxt,if_neg c,if_pos c2]
     have:=days_lo y (m+1)
     refine⟨⟨by omega,by omega,by omega,by omega⟩,?_⟩
     have:=cum_succ y m h1 (by omega)
     unfold num;omega
   · simp only[nxt,if_neg c,if_neg c2]
     have:=days_lo (y+1) 1
     refine⟨⟨by omega,by omega,by omega,by omega⟩,?_⟩
     have:=cum_succ y m h1 (by omega)
     have e:m=12:=by omega
     subst e
     have e2:cum y (12+1)=365+lp y:=cum_13 y
     have:=first_succ y
     have:=cum_1 (y+1)
     unfold num;omega
def dateNat:Nat→Int × Int × Int
 | 0=>(2000,1,1)
 | n+1=>nxt (dateNat n)
theorem dateNat_ok (n:Nat):Vld (dateNat n).1 (dateNat n).2.1 (dateNat n).2.2∧num (dateNat n).1 (dateNat n).2.1 (dateNat n).2.2=n:=by
 induction n with
 | zero=>exact⟨⟨by decide,by decide,by decide,by decide⟩,by decide⟩
 | succ n ih =>
   obtain⟨a,b⟩:=ih
   have:=nxt_ok _ _ _ a
   refine⟨this.1,?_⟩
   have h:=this.2
   rw[b] at h
   simpa [dateNat] using h
def isDay (n:Int):Bool:=decide (0≤n)&&decide (n≤65536)
theorem isDay_iff (n:Int):isDay n=true↔0≤n∧n≤65536:=by simp [isDay]
def dY (n:Int):Int:=if isDay n=true then (dateNat n.toNat).1 else 0
def dM (n:Int):Int:=if isDay n=true then (dateNat n.toNat).2.1 else 0
def dD (n:Int):Int:=if isDay n=true then (dateNat n.toNat).2.2 else 0
theorem date_no (n:Int) (h:isDay n=false):dY n=0∧dM n=0∧dD n=0:=by simp [dY,dM,dD,h]
theorem date_vld (n:Int) (h:isDay n=true):Vld (dY n) (dM n) (dD n)∧num (dY n) (dM n) (dD n)=n:=by
 have k:=dateNat_ok n.toNat
 have h':=(isDay_iff n).1 h
 have e:(n.toNat:Int)=n:=by omega
 rw[e] at k
 simpa [dY,dM,dD,h] using k
theorem date_is (n y m d:Int) (h:isDay n=true) (v:Vld y m d) (e:num y m d=n):dY n=y∧dM n=m∧dD n=d:=by
 have k:=date_vld n h
 exact vld_inj _ _ _ _ _ _ k.1 v (by rw[k.2,e])
theorem dY_range (n:Int) (h:isDay n=true):2000≤dY n∧dY n≤2179:=by
 have k:=date_vld n h
 have l:=num_lo _ _ _ k.1
 rw[k.2] at l
 have h':=(isDay_iff n).1 h
 constructor
 · rcases Int.lt_or_le (dY n) 2000 with c | c
   · rcases Int.lt_or_le (dY n+1) 2000 with c' | c'
     · have:=first_mono (dY n+1) 2000 c'
       have:=lp_01 (dY n+1)
       have e:first 2000=0:=by decide
       omega
     · have e:dY n+1=2000:=by omega
       rw[e] at l
       have e:first 2000=0:=by decide
       omega
   · exact c
 · rcases Int.lt_or_le 2179 (dY n) with c | c
   · have:first 2180≤first (dY n):=by
      rcases Int.lt_or_le 2180 (dY n) with c' | c'
      · have:=first_mono 2180 (dY n) c';have:=lp_01 2180;omega
      · have:dY n=2180:=by omega
        rw[this];omega
     have e:first 2180=65744:=by decide
     omega
   · exact c
theorem first_guess (n:Int) (h0:0≤n):first (2000+n / 366)≤n:=by unfold first;omega
theorem first_bd (y:Int) (h0:2000≤y) (h1:y≤3000):0≤first y∧first y≤366*(y - 2000):=by unfold first;omega
def ld (n:Nat):Nat→List UInt8
 | 0=>[]
 | j+1=>UInt8.ofNat (48+n / 10 ^ j % 10)::ld n j
theorem ld_length (n j:Nat):(ld n j).length=j:=by induction j <;> simp [ld, *]
theorem ld_snoc (n j:Nat):ld n (j+1)=ld (n / 10) j++[UInt8.ofNat (48+n % 10)]:=by
 induction j with
 | zero=>simp [ld]
 | succ j ih =>
   rw[ld,ih]
   conv=>rhs;rw[ld]
   rw[Nat.div_div_eq_div_mul,Nat.pow_succ,Nat.mul_comm]
   rfl
theorem ld_mod (n m j:Nat) (h:n % 10 ^ j=m % 10 ^ j):ld n j=ld m j:=by
 induction j with
 | zero=>rfl
 | succ j ih =>
   have e:∀ a:Nat,a / 10 ^ j % 10=a % 10 ^ (j+1) / 10 ^ j:=fun a=>by rw[Nat.pow_succ,Nat.mod_mul_right_div_self]
   have e2:∀ a:Nat,a % 10 ^ j=a % 10 ^ (j+1) % 10 ^ j:=fun a=>by rw[Nat.pow_succ,Nat.mod_mul_right_mod]
   rw[ld,ld,e n,e m,h,ih (by rw[e2 n,e2 m,h])]
end Cal
end
section
/- Plain words on the texts of days. -/
namespace Cal
def fmt (n:Int):List UInt8:=if isDay n=true then ld (dY n).toNat 4++[45]++ld (dM n).toNat 2++[45]++ld (dD n).toNat 2 else []
theorem fmt_no (n:Int) (h:isDay n=false):fmt n=[]:=by simp [fmt,h]
theorem fmt_yes (n:Int) (h:isDay n=true):fmt n=ld (dY n).toNat 4++[45]++ld (dM n).toNat 2++[45]++ld (dD n).toNat 2:=by simp [fmt,h]
def at_ (s:ByteArray) (i:Nat):Nat:=if h:i<s.size then (s[i]).toNat else 0
def reached (limit n:Int):Bool:=decide (0<limit)&&decide (limit≤n)
def fits (cr us ex t:Int):Bool:=isDay cr&&isDay us&&isDay ex&&isDay t
def expired (cr us ex t:Int):Bool:=fits cr us ex t&&(decide (ex=0) || decide (ex≤t))
def policy (ke un ac:Int):Bool:=isDay ke&&isDay un&&isDay ac
def dec (ke un ac cr us ex:Int) (ar:Bool) (t:Int):Int :=
 if (policy ke un ac&&fits cr us ex t)=true then
  if (expired cr us ex t&&(reached ke (t - cr) || ar&&reached ac (t - max cr us)))=true then 2
  else if (!ar&&reached un (t - max cr us))=true then 1 else 0
 else 0
end Cal
end
