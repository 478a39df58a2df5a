/- Catalogs. -/
import Derived.Test.YtnkjliahpeebjaaGreatDoorLaCa
set_option maxRecDepth 8000
set_option maxHeartbeats 16000000
open Option renaming some->Z9,none->Z8
open Go.Act renaming put->Zu
open List renaming setIfInBounds_toArray->YW,set_cons_zero->Ye,set_cons_succ->Yd
namespace Go.Proofs.YtnkjliahpeebjaaGreatDoor
open Go.RowKit
variable(a:Operand->Value)(e d:Value)(l:List Rw)(c:Rw)(w:World)
def rw3(x:Rw):Array Value:=#[.int .i64 x.1,.string x.2.1,.string x.2.2]
def lI(w:World)(b o:Nat)(c:Rw):Prop:=∀ i u,(rw3 c)[i]?=Z9 u->w.cell? ⟨b,o+i,Z8⟩=Z9 u
theorem zq{w:World}{b o:Nat}{x:Rw}(h:w.cell? ⟨b,o,Z8⟩=Z9 (.int .i64 x.1)/\w.cell? ⟨b,o+1,Z8⟩=Z9 (.string x.2.1)/\w.cell? ⟨b,o+2,Z8⟩=Z9 (.string x.2.2)):lI w b o x:=by
 intro i u H;unfold rw3 at H
 match i,H with
 | 0,H=>cases H;exact h.1
 | 1,H=>cases H;exact h.2.1
 | 2,H=>cases H;exact h.2.2
theorem Mm:(binOp .neq 89 (.agg (rw3 c)) (.agg (rw3 c))).run Tryz.prog w=.ok (.bool false) w:=by
 rw[run_neq_struct,run_equalIn_struct w 9999 89 _ _ (by simp [Program.fieldsOf,Tryz.underlying89]) (by kernel_rfl)];unfold rw3;simp [Program.fieldsOf,Tryz.underlying89,Op.eqFields,go_sem]
theorem GY(dst x y t pos af gd)(c:Rw)(h:a x=.agg (rw3 c))(H:a y=.agg (rw3 c)) :
 (execOp a ⟨dst,.binOp .neq 89 x y 89,t,pos,af,gd⟩).run Tryz.prog w=.ok (.value (.bool false)) w:=by
 unfold execOp;simp only[h,H,Sem.run_bind,Mm,Sem.run_pure]
 simp [eqGuard,go_sem]
theorem zv(dst x t pos af gd)(b o:Nat)(c:Rw)(f:a x=.pointer (Z9 ⟨b,o,Z8⟩))(H:∀ i u,(rw3 c)[i]?=Z9 u->w.cell? ⟨b,o+i,Z8⟩=Z9 u) :
 (execOp a ⟨dst,.load 89 x,t,pos,af,gd⟩).run Tryz.prog w=.ok (.value (.agg (rw3 c))) w:=by
 unfold execOp;have r:=run_loadAt_mid (P:=Tryz.prog) w b o 89 (rw3 c).toList _ (fun j v h=>by rw[Array.getElem?_toList] at h;exact H j v h) Tryz.underlying89 rfl (by kernel_rfl);simp only[f,Sem.run_bind,r,Result.andThen_ok,Sem.run_pure,Array.toArray_toList]
theorem pZ(y:RwS w e l)(z:RwS w d l) :
 Calls Tryz.prog 39 #[e,d] w fun r W=>r=.returned (.bool true)/\Below w.heap.size w W:=by
 obtain⟨D,F,rfl,K,g⟩:=y;obtain⟨E,G,rfl,-,j⟩:=z;have p:=lh g;have s:=lh j;clear g j;go_enter Tryz.func39,Tryz.ntmps39
 go_wp2_with fail
 go_loopw [5] (fun i wr=>∃ k:Nat,k<=l.length/\i=.int .i64 k/\∃ q,wr=w.drewN q) (fun i _=>l.length - (intOf i).toNat)
 case atStart=>exact⟨0,Nat.zero_le _,rfl,0,rfl⟩
 case round =>
  obtain⟨k,J,rfl,q,rfl⟩:=hrel;by_cases t:k<l.length
  .obtain⟨b,o,rfl,I,f⟩:=p.o (by omega);obtain⟨B,O,rfl,A,H⟩:=s.o (by omega);have Q:=zq (f k t);have n:=zq (H k t);generalize l[k]=C at Q n;have u:lI (w.drewN q) b (o+k*3) C:=Q;have x:lI (w.drewN q) B (O+k*3) C:=n;have L:(0:Int)<=(k:Int):=by omega
   have N:(k:Int)<(l.length:Int):=by omega
   clear Q n f H;go_upto_region 6 with fail
   refine wp_region_held_drew (S:=fun W=>lI W b (o+k*3) C/\lI W B (O+k*3) C) (by kernel_rfl) ?_ (fun hHeld=>?_)
   .exact⟨u,x⟩
   (refine rgy (i:=0) (Z9 17) ?_;(try simp only[Zu,pz]))
   (refine rgy (i:=1) (Z9 18) ?_;(try simp only[Zu,pz]))
   (refine rgy (i:=2) (Z9 19) ?_;(try simp only[Zu,pz]))
   refine eq (i:=3) (Z9 20) (v:=.agg (rw3 C)) rfl rfl (by kernel_rfl) (by kernel_rfl) (by kernel_rfl) (fun _ _ _ h=>h) (by kernel_rfl) (fun W m=>?_) (by assumption) ?_
   .exact zv _ W _ _ _ _ _ _ b (o+k*3) C rfl m.1
   try simp only[Zu,YW,Ye,Yd]
   (refine rgy (i:=4) (Z9 21) ?_;(try simp only[Zu,pz]))
   (refine rgy (i:=5) (Z9 22) ?_;(try simp only[Zu,pz]))
   (refine rgy (i:=6) (Z9 23) ?_;(try simp only[Zu,pz]))
   refine eq (i:=7) (Z9 24) (v:=.agg (rw3 C)) rfl rfl (by kernel_rfl) (by kernel_rfl) (by kernel_rfl) (fun _ _ _ h=>h) (by kernel_rfl) (fun W m=>?_) (by assumption) ?_
   .exact zv _ W _ _ _ _ _ _ B (O+k*3) C rfl m.2
   try simp only[Zu,YW,Ye,Yd]
   refine eq (i:=8) (Z9 25) (v:=.bool false) rfl rfl (by kernel_rfl) (by kernel_rfl) (by kernel_rfl) (fun _ _ _ h=>h) (by kernel_rfl) (fun W m=>?_) (by assumption) ?_
   .exact GY _ W _ _ _ _ _ _ _ C rfl rfl
   try simp only[Zu,YW,Ye,Yd]
   refine wpAnyH_done (by kernel_rfl) ?_ _
   go_wp2_with fail
   go_roundw
   case rel=>exact⟨k+1,by omega,by go_num,q+1,rfl⟩
   case measure=>simp [intOf];omega
  .obtain rfl:k=l.length:=by omega
   go_wp2_with fail
   go_ret
   exact⟨rfl,below_drewN (Below.refl _ _) _⟩
section
def FL(w:World)(a:Option Addr)(n:Nat)(X:Nat->Fu):Prop:=∀ k,k<n->∃ b o A g,a=Z9 ⟨b,o,Z8⟩/\b<w.heap.size/\mid w b (o+k*33)=(X k).1.vals A g/\IS w A (X k).2.1/\GS w g (X k).2.2/\(X k).1.name.size<=60
theorem FL.below{w W:World}{a:Option Addr}{n:Nat}{X:Nat->Fu}(h:FL w a n X)(H:Below w.heap.size w W):FL W a n X:=fun k r=>by
 obtain⟨b,o,A,g,f,i,j,m,p,q⟩:=h k r;exact⟨b,o,A,g,f,Nat.lt_of_lt_of_le i H.size,Ah H j (by rw[ah];decide),m.below H,p.below H,q⟩
attribute [local go_sem ↓] aZ fb bf bq cl
attribute [local go_sem] bn aS aH bE bH aK aT ak aI aw az aM ah aQ aL aP aO aR aY aW bD
end
end Go.Proofs.YtnkjliahpeebjaaGreatDoor
