/- Catalogs. -/
import Derived.Test.YtkafnmbldpofdaaGreatDoorLaCa
set_option maxRecDepth 8000
set_option maxHeartbeats 16000000
namespace Go.Proofs.YtkafnmbldpofdaaGreatDoor
open Go.RowKit
section
def FL(w:World)(a:Option Addr)(n:Nat)(X:Nat->Fu):Prop:=∀ k,k<n->∃ b o al gr,a=some ⟨b,o,none⟩∧b<w.heap.size∧mid w b (o+k*33)=(X k).1.vals al gr∧IS w al (X k).2.1∧GS w gr (X k).2.2∧(X k).1.name.size<=60
theorem FL.below{w w':World}{a:Option Addr}{n:Nat}{X:Nat->Fu}(h:FL w a n X)(hb:Below w.heap.size w w'):FL w' a n X:=fun k hk=>by
 obtain⟨b,o,al,gr,h1,h2,h3,h4,h5,h6⟩:=h k hk
 exact⟨b,o,al,gr,h1,Nat.lt_of_lt_of_le h2 hb.size,zfu hb h3 (by rw[zab];decide),h4.below hb,h5.below hb,h6⟩
def zrp(id:Int)(R:List Rw)(x:Fu):List Rw:=if (zfy R id x).2=0 then apl R (zfy R id x).1 else R
def zie(id:Int)(X:Nat->Fu):Nat->List Rw
 | 0=>[]
 | k+1=>zrp id (zie id X k) (X k)
theorem ziu(R:List Rw)(id:Int)(x:Fu):(zfy R id x).1.length<=1:=by
 unfold zfy
 repeat' split
 all_goals simp
theorem zm8(id:Int)(R:List Rw)(x:Fu):(zrp id R x).length<=R.length+1:=by
 unfold zrp
 split
 · have h1:=zhK R (zfy R id x).1
   have h2:=ziu R id x
   omega
 · omega
theorem zgh(id:Int)(X:Nat->Fu):∀ n,(zie id X n).length<=n
 | 0=>Nat.le_refl _
 | k+1=>by have h1:=zgh id X k;have h2:=zm8 id (zie id X k) (X k);rw[zie];omega
attribute [local go_sem ↓] zaX zdf za0 zaD zbg
attribute [local go_sem] zaA zas zan zaM zaO zah zat zai zau zaf zak zaq zab zap zaj zaE zaC zao zam zax zaL
theorem zny(id:Int)(a:Option Addr)(n c:Nat)(X:Nat->Fu)(w:World)(hn:n<=500)(hF:FL w a n X) :
  Calls Tryz.prog 10 #[.int .i64 id,.slice a n c] w fun r w'=>∃ v',r=.returned v'∧RwS w' v' (zie id X n)∧(∀ q,v'.ownBlock=some q->q<w'.heap.size)∧Below w.heap.size w w':=by
 have HF:=lh hF
 clear hF
 go_enter Tryz.func10,Tryz.ntmps10
 go_wp2_with fail
 go_loopw [5,6] (fun v i wr=>∃ (k:Nat),k<=n∧i=.int .i64 k∧RwS wr v (zie id X k)∧(∀ q,v.ownBlock=some q->q<wr.heap.size)∧Below w.heap.size w wr) (fun _ i _=>n - (intOf i).toNat)
 case atStart=>exact⟨0,Nat.zero_le _,rfl,⟨_,_,rfl,by show (0:Nat)<=_;omega,fun h=>by cases h⟩,fun q hq=>by have h2:w.heap.size=q:=(by simpa [Value.ownBlock] using hq);simp;omega,by exact za4⟩
 case round =>
  obtain⟨k,hk,rfl,hR,hq,B⟩:=hrel
  obtain⟨va,vc,rfl,-⟩:=_root_.id hR
  have HR:=lh hR
  have HB:=lh B
  have HQ:=lh hq
  have hml:=zgh id X k
  clear hR B hq
  by_cases hlt:k<n
  · obtain⟨b,o,al,gr,rfl,hb,hmid,hI,hG,hsz⟩:=(HF.out.below HB.out) k hlt
    have hone:=zav (X k).1 al gr (zaT hI) (zaU hG)
    have hz33:(mid wr b (o+k*33)).size=33:=by rw[hmid];exact zab _ _ _
    have j1:(0:Int)<=(k:Int):=by omega
    have j2:(k:Int)<(n:Int):=by omega
    have hadd:=zjy (.slice va (zie id X k).length vc) (zie id X k) id (X k) al gr wr hsz hI hG HR.out
    have hal:=ziu (zie id X k) id (X k)
    have hstep:zie id X (k+1)=zrp id (zie id X k) (X k):=rfl
    unfold zrp at hstep
    generalize zie id X k=D at hadd hal hstep HR HQ hml ⊢
    generalize zfy D id (X k)=ga at hadd hal hstep
    obtain⟨cs,e⟩:=ga
    dsimp only at hal hstep
    have HAD:=lh hadd
    clear hadd hI hG hsz
    by_cases he:e=0
    · rw[if_pos he] at hstep
      subst he
      have HST:=lh hstep
      clear hstep
      go_wp2_with (first
       | (go_at_call 48;(refine HAD.out.mono ?_);rintro _ w2 ⟨ov,rfl,hc,hb2⟩;have HC2:=lh hc;have B2:=lh hb2;clear hc hb2)
       | (go_at_call 13;(refine (zfa _ D _ cs _ (HR.out.below B2.out) HC2.out (by omega) (by omega)).mono ?_);rintro _ w3 ⟨v3,rfl,hr3,ho3,hb3⟩;have R3:=lh hr3;have O3:=lh (fun q hq=>(ho3 q hq).2);have B3:=lh (bt B2.out hb3);clear hr3 ho3 hb3))
      go_roundw
      case rel=>exact⟨k+1,by omega,by go_num,by rw[HST.out];exact R3.out,O3.out,bt HB.out B3.out⟩
      case measure=>simp [intOf];omega
    · rw[if_neg he] at hstep
      have t1:(e==0)=false:=beq_eq_false_iff_ne.2 he
      have HST:=lh hstep
      clear hstep he
      go_wp2_with (go_at_call 48;(refine HAD.out.mono ?_);rintro _ w2 ⟨ov,rfl,hc,hb2⟩;have B2:=lh hb2;clear hc hb2)
      go_roundw
      case rel=>exact⟨k+1,by omega,by go_num,by rw[HST.out];exact HR.out.below B2.out,fun q hq=>Nat.lt_of_lt_of_le (HQ.out q hq) B2.out.size,bt HB.out B2.out⟩
      case measure=>simp [intOf];omega
  · obtain rfl:k=n:=by omega
    go_wp2_with fail
    go_ret
    exact⟨_,rfl,HR.out,HQ.out,HB.out⟩
end
end Go.Proofs.YtkafnmbldpofdaaGreatDoor
