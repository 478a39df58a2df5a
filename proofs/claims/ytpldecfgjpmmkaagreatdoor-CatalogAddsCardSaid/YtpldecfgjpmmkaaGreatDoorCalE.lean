/- Several texts in one: TxtA CalA CalB CalC CalD CalE. -/
import Derived.Test.YtpldecfgjpmmkaaGreatDoorChecked
import Derived.Test.YtpldecfgjpmmkaaGreatDoorShelf
import Derived.Test.YtpldecfgjpmmkaaGreatDoorCal
import Derived.Test.YtpldecfgjpmmkaaGreatDoorKit
import Derived.Lib.SmallJoins
section
/- Contracts: strconv.Itoa in this seat's words; the reference's Digits. -/
namespace Go.Proofs.YtpldecfgjpmmkaaGreatDoor
open Go.RowKit
set_option maxHeartbeats 400000
set_option maxRecDepth 8000
def Tab (w : World) : Prop := Lib.TabIs Tryz.prog w "internal/strconv.uint64pow10" .u64 Lib.pow10Tab
theorem gTab : Tryz.prog.globalNamed "internal/strconv.uint64pow10" = some 3 := by kernel_rfl
theorem Tab.below {w w':World} (h:Tab w) (hb:Below w.heap.size w w'):Tab w':=Joins.tab_stays gTab h hb (Nat.le_refl _)
theorem below_grow (w:World) (k:Nat) (os:Array Obj):Below w.heap.size w (Sort.grow (w.drewN k) os):=by
 refine⟨rfl,rfl,rfl,?_,?_⟩
 · simp [Sort.grow,World.drewN]
 · intro i hi
   simp [Sort.grow,World.drewN,Array.getElem?_append,hi]
theorem itoa (n:Int) (w:World) (h0:-9223372036854775808≤n) (h1:n≤9223372036854775807) (hT:Tab w) :
  Calls Tryz.prog 214 #[.int .i64 n] w fun e w'=>e=.returned (.string ⟨(Lib.itoa n).toArray⟩)∧Below w.heap.size w w' :=
 (Tryz.strconv_Itoa n h0 h1 w hT).mono fun _ _ ⟨he,k,os,hw⟩=>⟨he,hw ▸ below_grow w k os⟩
theorem itoa_ld (J n:Nat) (h0:10 ^ J≤n) (h1:n<10 ^ (J+1)):Lib.itoa n=Cal.ld n (J+1):=by
 rw[Lib.itoa_nonneg]
 induction J generalizing n with
 | zero =>
   have h1':n<10:=by simpa using h1
   rw[Lib.decDigits,dif_pos h1']
   simp [Cal.ld,Nat.mod_eq_of_lt h1']
 | succ J ih =>
   have hp:1≤10 ^ J:=Nat.one_le_pow _ _ (by decide)
   rw[Nat.pow_succ] at h0 h1
   rw[Lib.decDigits,dif_neg (by omega),ih (n / 10) (by omega) (by rw[Nat.pow_succ] at h1 ⊢;omega),Cal.ld_snoc n (J+1)]
theorem itoa_d (J n:Nat) (w:World) (h0:10 ^ J≤n) (h1:n<10 ^ (J+1)) (hJ:J≤17) (hT:Tab w) :
  Calls Tryz.prog 214 #[.int .i64 n] w fun e w'=>e=.returned (.string ⟨(Cal.ld n (J+1)).toArray⟩)∧Below w.heap.size w w':=by
 have:10 ^ (J+1)≤10 ^ 18:=Nat.pow_le_pow_right (by omega) (by omega)
 have h:=itoa n w (by omega) (by omega) hT
 rwa [itoa_ld J n h0 h1] at h
end Go.Proofs.YtpldecfgjpmmkaaGreatDoor
end
section
/- Contracts of the calendar's leaves: leap, first, isDay, lengths and their twins of the reference. -/
namespace Go.Proofs.YtpldecfgjpmmkaaGreatDoor
open Go.RowKit
set_option maxHeartbeats 400000
theorem calleap (y:Int) (w:World) (h0:0≤y) (h1:y≤100000) :
  Calls Tryz.prog 225 #[.int .i64 y] w fun e w'=>e=.returned (.bool (Cal.leap y))∧w=w':=by
 go_enter Tryz.func225,Tryz.ntmps225
 go_wp2
 all_goals (go_ret;exact⟨ret_bool (by simp [Cal.leap, *]),rfl⟩)
theorem isDay (y:Int) (w:World) :
  Calls Tryz.prog 211 #[.int .i64 y] w fun e w'=>e=.returned (.bool (Cal.isDay y))∧w=w':=by
 go_enter Tryz.func211,Tryz.ntmps211
 go_wp2
 all_goals (go_ret;exact⟨ret_bool (by simp [Cal.isDay];try omega),rfl⟩)
theorem refIsDay (y:Int) (w:World) :
  Calls Tryz.prog 70 #[.int .i64 y] w fun e w'=>e=.returned (.bool (Cal.isDay y))∧w=w':=by
 go_enter Tryz.func70,Tryz.ntmps70
 go_wp2
 all_goals (go_ret;exact⟨ret_bool (by simp [Cal.isDay];try omega),rfl⟩)
theorem first (y:Int) (w:World) (h0:2000≤y) (h1:y≤100000) :
  Calls Tryz.prog 222 #[.int .i64 y] w fun e w'=>e=.returned (.int .i64 (Cal.first y))∧w=w':=by
 go_enter Tryz.func222,Tryz.ntmps222
 go_wp2
 go_ret
 exact⟨ret_int (by simp only[Cal.first]),rfl⟩
theorem lengths (y:Int) (w:World) (h0:0≤y) (h1:y≤100000) :
  Calls Tryz.prog 223 #[.int .i64 y] w fun e w'=>e=.returned (.agg #[.int .i64 31,.int .i64 (28+Cal.lp y),.int .i64 31,.int .i64 30,.int .i64 31,.int .i64 30,.int .i64 31,.int .i64 31,.int .i64 30,.int .i64 31,.int .i64 30,.int .i64 31])∧Below w.heap.size w w':=by
 go_enter Tryz.func223,Tryz.ntmps223
 go_wp2_with (go_at_call 225;refine (calleap _ _ h0 h1).mono ?_;rintro e w' ⟨rfl,rfl⟩)
 all_goals
  refine bodyPost_ret (v:=.agg #[.int .i64 31,.int .i64 (28+Cal.lp y),.int .i64 31,.int .i64 30,.int .i64 31,.int .i64 30,.int .i64 31,.int .i64 31,.int .i64 30,.int .i64 31,.int .i64 30,.int .i64 31]) (by simp [results,Tryz.results223,go_sem,Cal.lp, *]) rfl ⟨rfl,?_⟩
  (repeat (first | exact Below.refl _ _ | assumption | (refine Below.drew ?_) | (refine Below.alloc ?_ (by simp) _) | (refine Below.setCell ?_ (by simp) _)))
end Go.Proofs.YtpldecfgjpmmkaaGreatDoor
end
section
/- Contracts of Date (the program's and the reference's). -/
namespace Go.Proofs.YtpldecfgjpmmkaaGreatDoor
open Go.RowKit
set_option maxHeartbeats 400000
theorem lens_index (y m:Int) (h0:0≤m) (h1:m<12) (w:World) :
  (Instr.index 240 (.agg #[.int .i64 31,.int .i64 (28+Cal.lp y),.int .i64 31,.int .i64 30,.int .i64 31,.int .i64 30,.int .i64 31,.int .i64 31,.int .i64 30,.int .i64 31,.int .i64 30,.int .i64 31]) (.int .i64 m)).run Tryz.prog w=.ok (.int .i64 (Cal.days y (m+1))) w:=by
 have i0:(Instr.index 240 (.agg #[.int .i64 31,.int .i64 (28+Cal.lp y),.int .i64 31,.int .i64 30,.int .i64 31,.int .i64 30,.int .i64 31,.int .i64 31,.int .i64 30,.int .i64 31,.int .i64 30,.int .i64 31]) (.int .i64 0)).run Tryz.prog w=.ok (.int .i64 (31)) w:=by kernel_rfl
 have i1:(Instr.index 240 (.agg #[.int .i64 31,.int .i64 (28+Cal.lp y),.int .i64 31,.int .i64 30,.int .i64 31,.int .i64 30,.int .i64 31,.int .i64 31,.int .i64 30,.int .i64 31,.int .i64 30,.int .i64 31]) (.int .i64 1)).run Tryz.prog w=.ok (.int .i64 (28+Cal.lp y)) w:=by kernel_rfl
 have i2:(Instr.index 240 (.agg #[.int .i64 31,.int .i64 (28+Cal.lp y),.int .i64 31,.int .i64 30,.int .i64 31,.int .i64 30,.int .i64 31,.int .i64 31,.int .i64 30,.int .i64 31,.int .i64 30,.int .i64 31]) (.int .i64 2)).run Tryz.prog w=.ok (.int .i64 (31)) w:=by kernel_rfl
 have i3:(Instr.index 240 (.agg #[.int .i64 31,.int .i64 (28+Cal.lp y),.int .i64 31,.int .i64 30,.int .i64 31,.int .i64 30,.int .i64 31,.int .i64 31,.int .i64 30,.int .i64 31,.int .i64 30,.int .i64 31]) (.int .i64 3)).run Tryz.prog w=.ok (.int .i64 (30)) w:=by kernel_rfl
 have i4:(Instr.index 240 (.agg #[.int .i64 31,.int .i64 (28+Cal.lp y),.int .i64 31,.int .i64 30,.int .i64 31,.int .i64 30,.int .i64 31,.int .i64 31,.int .i64 30,.int .i64 31,.int .i64 30,.int .i64 31]) (.int .i64 4)).run Tryz.prog w=.ok (.int .i64 (31)) w:=by kernel_rfl
 have i5:(Instr.index 240 (.agg #[.int .i64 31,.int .i64 (28+Cal.lp y),.int .i64 31,.int .i64 30,.int .i64 31,.int .i64 30,.int .i64 31,.int .i64 31,.int .i64 30,.int .i64 31,.int .i64 30,.int .i64 31]) (.int .i64 5)).run Tryz.prog w=.ok (.int .i64 (30)) w:=by kernel_rfl
 have i6:(Instr.index 240 (.agg #[.int .i64 31,.int .i64 (28+Cal.lp y),.int .i64 31,.int .i64 30,.int .i64 31,.int .i64 30,.int .i64 31,.int .i64 31,.int .i64 30,.int .i64 31,.int .i64 30,.int .i64 31]) (.int .i64 6)).run Tryz.prog w=.ok (.int .i64 (31)) w:=by kernel_rfl
 have i7:(Instr.index 240 (.agg #[.int .i64 31,.int .i64 (28+Cal.lp y),.int .i64 31,.int .i64 30,.int .i64 31,.int .i64 30,.int .i64 31,.int .i64 31,.int .i64 30,.int .i64 31,.int .i64 30,.int .i64 31]) (.int .i64 7)).run Tryz.prog w=.ok (.int .i64 (31)) w:=by kernel_rfl
 have i8:(Instr.index 240 (.agg #[.int .i64 31,.int .i64 (28+Cal.lp y),.int .i64 31,.int .i64 30,.int .i64 31,.int .i64 30,.int .i64 31,.int .i64 31,.int .i64 30,.int .i64 31,.int .i64 30,.int .i64 31]) (.int .i64 8)).run Tryz.prog w=.ok (.int .i64 (30)) w:=by kernel_rfl
 have i9:(Instr.index 240 (.agg #[.int .i64 31,.int .i64 (28+Cal.lp y),.int .i64 31,.int .i64 30,.int .i64 31,.int .i64 30,.int .i64 31,.int .i64 31,.int .i64 30,.int .i64 31,.int .i64 30,.int .i64 31]) (.int .i64 9)).run Tryz.prog w=.ok (.int .i64 (31)) w:=by kernel_rfl
 have i10:(Instr.index 240 (.agg #[.int .i64 31,.int .i64 (28+Cal.lp y),.int .i64 31,.int .i64 30,.int .i64 31,.int .i64 30,.int .i64 31,.int .i64 31,.int .i64 30,.int .i64 31,.int .i64 30,.int .i64 31]) (.int .i64 10)).run Tryz.prog w=.ok (.int .i64 (30)) w:=by kernel_rfl
 have i11:(Instr.index 240 (.agg #[.int .i64 31,.int .i64 (28+Cal.lp y),.int .i64 31,.int .i64 30,.int .i64 31,.int .i64 30,.int .i64 31,.int .i64 31,.int .i64 30,.int .i64 31,.int .i64 30,.int .i64 31]) (.int .i64 11)).run Tryz.prog w=.ok (.int .i64 (31)) w:=by kernel_rfl
 have:m=0∨m=1∨m=2∨m=3∨m=4∨m=5∨m=6∨m=7∨m=8∨m=9∨m=10∨m=11:=by omega
 rcases this with rfl | rfl | rfl | rfl | rfl | rfl | rfl | rfl | rfl | rfl | rfl | rfl
 · rw[i0];simp [Cal.days]
 · rw[i1];simp [Cal.days]
 · rw[i2];simp [Cal.days]
 · rw[i3];simp [Cal.days]
 · rw[i4];simp [Cal.days]
 · rw[i5];simp [Cal.days]
 · rw[i6];simp [Cal.days]
 · rw[i7];simp [Cal.days]
 · rw[i8];simp [Cal.days]
 · rw[i9];simp [Cal.days]
 · rw[i10];simp [Cal.days]
 · rw[i11];simp [Cal.days]
theorem date_no (n:Int) (w:World) (h:Cal.isDay n=false) :
  Calls Tryz.prog 212 #[.int .i64 n] w fun e w'=>e=.returned (.tuple #[.int .i64 0,.int .i64 0,.int .i64 0])∧Below w.heap.size w w':=by
 go_enter Tryz.func212,Tryz.ntmps212
 go_wp2_with (go_at_call 211;(with_reducible refine (isDay _ _).mono ?_);rintro e w' ⟨rfl,rfl⟩)
 go_ret3
 exact⟨rfl,Below.refl _ _⟩
theorem date_yes (n:Int) (w:World) (h:Cal.isDay n=true) :
  Calls Tryz.prog 212 #[.int .i64 n] w fun e w'=>e=.returned (.tuple #[.int .i64 (Cal.dY n),.int .i64 (Cal.dM n),.int .i64 (Cal.dD n)])∧Below w.heap.size w w':=by
 obtain⟨h0,h1⟩:=(Cal.isDay_iff n).1 h
 have g0:=Cal.first_guess n h0
 go_enter Tryz.func212,Tryz.ntmps212
 go_wp2_with (go_at_call 211;(with_reducible refine (isDay _ _).mono ?_);rintro e w' ⟨rfl,rfl⟩)
 go_loop [5] (fun t=>∃ y:Int,2000≤y∧y≤2180∧Cal.first y≤n∧t=.int .i64 y) (fun t=>(3000 - intOf t).toNat)
 case atStart=>exact⟨_,by omega,by omega,g0,rfl⟩
 case round =>
  obtain⟨y,hy1,hy2,hy3,rfl⟩:=hrel
  have f1:=Cal.first_bd y hy1 (by omega)
  have f2:=Cal.first_bd (y+1) (by omega) (by omega)
  have f3:=Cal.first_succ y
  have f4:=Cal.lp_01 y
  have f5:=Cal.first_bd 2180 (by omega) (by omega)
  have F3:=Lib.hid f3
  clear f3 g0
  by_cases hc:Cal.first (y+1)≤n
  · go_wp2_with (go_at_call 222;(with_reducible refine (first _ _ (by omega) (by omega)).mono ?_);rintro e w' ⟨rfl,rfl⟩)
    go_round
    case rel=>
     have:y≠2180:=by
      rintro rfl
      have e:Cal.first (2180+1)=66110:=by decide
      omega
     exact⟨y+1,by omega,by omega,hc,rfl⟩
    case measure=>simp [intOf];omega
  · go_wp2_with (first | (go_at_call 222;(with_reducible refine (first _ _ (by omega) (by omega)).mono ?_);rintro e w' ⟨rfl,rfl⟩) | (go_at_call 223;(with_reducible refine (lengths _ _ (by omega) (by omega)).mono ?_);rintro e w1 ⟨rfl,hb⟩))
    have v1:=Cal.cum_1 y
    have nn:Cal.isDay n=true:=h
    have HB:=Lib.hid hb;clear hb h
    go_loop [0,27] (fun d k=>∃ m:Int,0≤m∧m≤12∧k=.int .i64 m∧0≤n - Cal.first y - Cal.cum y (m+1)∧d=.int .i64 (n - Cal.first y - Cal.cum y (m+1))) (fun _ k=>(12 - intOf k).toNat)
    case atStart=>exact⟨0,by omega,by omega,rfl,by simp only[Int.zero_add,v1];omega,by simp only[Int.zero_add,v1,Int.sub_zero]⟩
    case round =>
     obtain⟨m,hm0,hm1,rfl,hr,rfl⟩:=hrel
     clear v1
     by_cases hm:m<12
     · have hi:=fun w=>lens_index y m hm0 hm w
       have cs:=Cal.cum_succ y (m+1) (by omega) (by omega)
       have dl:=Cal.days_lo y (m+1)
       have cn:=Cal.cum_nonneg y (m+1) (by omega) (by omega)
       by_cases hd:n - Cal.first y - Cal.cum y (m+1)<Cal.days y (m+1)
       · have H:=Lib.hid cs;clear cs
         go_wp2
         go_ret3
         have hdi:=Cal.date_is n y (m+1) (n - Cal.first y - Cal.cum y (m+1)+1) nn ⟨by omega,by omega,by omega,by omega⟩ (by unfold Cal.num;omega)
         exact⟨ret3 hdi.1.symm hdi.2.1.symm hdi.2.2.symm,HB.out⟩
       · have H:=Lib.hid cs;clear cs
         go_wp2
         go_round
         case rel=>exact⟨m+1,by omega,by omega,rfl,by rw[H.out];omega,by rw[H.out];go_num⟩
         case measure=>simp [intOf];omega
     · exfalso
       obtain rfl:m=12:=by omega
       have e:Cal.cum y (12+1)=365+Cal.lp y:=Cal.cum_13 y
       have:=F3.out
       omega
end Go.Proofs.YtpldecfgjpmmkaaGreatDoor
end
section
/- Contracts of the reference's Day. -/
namespace Go.Proofs.YtpldecfgjpmmkaaGreatDoor
open Go.RowKit
set_option maxHeartbeats 400000
end Go.Proofs.YtpldecfgjpmmkaaGreatDoor
end
section
/- Contracts of AddMonths and Weekday (the program's and the reference's). -/
namespace Go.Proofs.YtpldecfgjpmmkaaGreatDoor
open Go.RowKit
set_option maxHeartbeats 400000
theorem date_any (n:Int) (w:World) :
  Calls Tryz.prog 212 #[.int .i64 n] w fun e w'=>e=.returned (.tuple #[.int .i64 (Cal.dY n),.int .i64 (Cal.dM n),.int .i64 (Cal.dD n)])∧Below w.heap.size w w':=by
 cases h:Cal.isDay n with
 | true=>exact date_yes n w h
 | false=>have k:=Cal.date_no n h;rw[k.1,k.2.1,k.2.2];exact date_no n w h
end Go.Proofs.YtpldecfgjpmmkaaGreatDoor
end
section
/- Contracts of Format (the program's and the reference's). -/
namespace Go.Proofs.YtpldecfgjpmmkaaGreatDoor
open Go.RowKit
set_option maxHeartbeats 400000
theorem itoa_100 (m:Nat) (w:World) (hm:m≤99) (hT:Tab w) :
  Calls Tryz.prog 214 #[.int .i64 ((m:Int)+100)] w fun e w'=>e=.returned (.string ⟨#[49,UInt8.ofNat (48+m / 10 ^ 1 % 10),UInt8.ofNat (48+m / 10 ^ 0 % 10)]⟩)∧Below w.heap.size w w':=by
 have hi:=itoa_d 2 (m+100) w (by omega) (by omega) (by omega) hT
 have e:Cal.ld (m+100) 3=[49,UInt8.ofNat (48+m / 10 ^ 1 % 10),UInt8.ofNat (48+m / 10 ^ 0 % 10)]:=by
  rw[Cal.ld,Cal.ld_mod (m+100) m 2 (by omega)]
  rw[show (m+100) / 10 ^ 2 % 10=1 by omega]
  rfl
 rwa [e] at hi
theorem two (m:Nat) (w:World) (hm:m≤99) (hT:Tab w) :
  Calls Tryz.prog 213 #[.int .i64 m] w fun e w'=>e=.returned (.string ⟨(Cal.ld m 2).toArray⟩)∧Below w.heap.size w w':=by
 go_enter Tryz.func213,Tryz.ntmps213
 go_wp2_with (go_at_call 214;(with_reducible refine (itoa_100 _ _ hm hT).mono ?_);rintro e w1 ⟨rfl,hb⟩)
 go_ret
 exact⟨ret_str (ByteArray.ext (by simp [Cal.ld])),hb⟩
theorem two_i (z:Int) (w:World) (h0:0≤z) (h1:z≤99) (hT:Tab w) :
  Calls Tryz.prog 213 #[.int .i64 z] w fun e w'=>e=.returned (.string ⟨(Cal.ld z.toNat 2).toArray⟩)∧Below w.heap.size w w':=by
 have e:z=((z.toNat:Nat):Int):=by omega
 rw[e];simp only[Int.toNat_natCast]
 exact two z.toNat w (by omega) hT
theorem itoa_y (z:Int) (w:World) (h0:1000≤z) (h1:z≤9999) (hT:Tab w) :
  Calls Tryz.prog 214 #[.int .i64 z] w fun e w'=>e=.returned (.string ⟨(Cal.ld z.toNat 4).toArray⟩)∧Below w.heap.size w w':=by
 have e:z=((z.toNat:Nat):Int):=by omega
 rw[e];simp only[Int.toNat_natCast]
 exact itoa_d 3 z.toNat w (by omega) (by omega) (by omega) hT
theorem format_any (n:Int) (w:World) (hT:Tab w) :
  Calls Tryz.prog 186 #[.int .i64 n] w fun e w'=>e=.returned (.string ⟨(Cal.fmt n).toArray⟩)∧Below w.heap.size w w':=by
 cases h:Cal.isDay n with
 | false =>
   go_enter Tryz.func186,Tryz.ntmps186
   go_wp2_with (go_at_call 211;(with_reducible refine (isDay _ _).mono ?_);rintro e w' ⟨rfl,rfl⟩)
   go_ret
   exact⟨by rw[Cal.fmt_no n h];rfl,Below.refl _ _⟩
 | true =>
   have yr:=Cal.dY_range n h
   obtain⟨⟨m1,m2,d1,d2⟩,-⟩:=Cal.date_vld n h
   have dl:=Cal.days_lo (Cal.dY n) (Cal.dM n)
   have ly:=Cal.ld_length (Cal.dY n).toNat 4
   have lm:=Cal.ld_length (Cal.dM n).toNat 2
   have ldd:=Cal.ld_length (Cal.dD n).toNat 2
   have B:=Below.refl w.heap.size w
   go_enter Tryz.func186,Tryz.ntmps186
   go_wp2_with (first | (go_at_call 211;(with_reducible refine (isDay _ _).mono ?_);rintro e w' ⟨rfl,rfl⟩) | (go_at_call 212;(with_reducible refine (date_any _ _).mono ?_);rintro e w1 ⟨rfl,hb⟩;have hT:=Tab.below hT hb;have B:=Below.trans B (hb.mono B.size);clear hb) | (go_at_call 214;(with_reducible refine (itoa_y _ _ (by omega) (by omega) hT).mono ?_);rintro e w1 ⟨rfl,hb⟩;have hT:=Tab.below hT hb;have B:=Below.trans B (hb.mono B.size);clear hb) | (go_at_call 213;(with_reducible refine (two_i _ _ (by omega) (by omega) hT).mono ?_);rintro e w1 ⟨rfl,hb⟩;have hT:=Tab.below hT hb;have B:=Below.trans B (hb.mono B.size);clear hb))
   go_ret
   exact⟨ret_str (by rw[Cal.fmt_yes n h];apply ByteArray.ext;simp),B⟩
end Go.Proofs.YtpldecfgjpmmkaaGreatDoor
end
