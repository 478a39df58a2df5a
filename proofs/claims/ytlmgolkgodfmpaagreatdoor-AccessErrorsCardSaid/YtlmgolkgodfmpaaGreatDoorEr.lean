/- Rows of a list of entries, however many alternates they have. -/
import Derived.Test.YtlmgolkgodfmpaaGreatDoorFrameEl
import Derived.Test.YtlmgolkgodfmpaaGreatDoorSrt
import Derived.Test.YtlmgolkgodfmpaaGreatDoorSh
import Derived.Test.YtlmgolkgodfmpaaGreatDoorSp
namespace Go.Proofs.YtlmgolkgodfmpaaGreatDoor
open Go.RowKit
set_option maxHeartbeats 8000000
set_option maxRecDepth 8000
theorem rrows_nil (id:Int) (a:Option Addr) (c:Nat) (w:World) :
  Calls Tryz.prog 43 #[.int .i64 id,.slice a 0 c] w fun r w'=>∃ v,r=.returned v∧RwS w' v []∧(∀ q,v.ownBlock=some q→w.heap.size≤q)∧Below w.heap.size w w':=by
 go_enter Tryz.func43,Tryz.ntmps43
 go_wp2_with fail
 go_loopw [5,6] (fun v i wr=>i=.int .i64 0∧wr.ownsRow w.heap.size 69 3 v 0 []∧Below w.heap.size w wr) (fun _ i _=>0)
 case atStart=>exact⟨rfl,World.ownsRow_made w #[] 0 (Nat.le_refl _) (Nat.zero_le _) rfl,by exact belA⟩
 case round =>
  obtain⟨rfl,hown,B⟩:=hrel
  obtain⟨va,vc,rfl⟩:=owns_sl hown
  have HO:=Lib.hid hown
  clear hown
  go_wp2_with fail
  go_ret
  exact⟨_,rfl,⟨va,vc,rfl,by decide,fun h=>absurd h (by decide)⟩,fun q hq=>(own_base HO.out q hq).1,B⟩
def EncR (W:World) (cs:Array Value) (E:Option (List UInt8)):Prop:=Calls Tryz.prog 107 #[.agg cs] W fun r w'=>∃ t,r=.returned (.tuple #[.string t,.int .i64 (match E with | none=>1 | some _=>0)])∧(∀ s,E=some s→Ds.bl t=s∧32≤s.length)∧Below W.heap.size W w'
theorem enc_at {W:World} {cs cs':Array Value} {E E':Option (List UInt8)} (h:cs=cs') (hE:E=E') (H:EncR W cs' E'):EncR W cs E:=by
 subst h hE
 exact H
theorem rrows_esl (a:Option Addr) (n c:Nat) (F:Nat→Ef) (w:World) (h:ESL w a n F) (hn:n≤1000) (hF:∀ k,k<n→(F k).e.name.size≤60∧(F k).n2≤1000) :
  ∃ E:Nat→Option (List UInt8),(∀ k s,k<n→E k=some s→∃ y:Fu,okX y=true∧recX y=s)∧∀ id:Int,Calls Tryz.prog 43 #[.int .i64 id,.slice a n c] w fun r w'=>∃ v,r=.returned v∧RwS w' v (rowsE id E n)∧(∀ q,v.ownBlock=some q→w.heap.size≤q)∧Below w.heap.size w w':=by
 by_cases h0:n=0
 · subst h0
   exact⟨fun _=>none,fun k s hk=>by omega,fun id=>rrows_nil id a c w⟩
 obtain⟨b,o,rfl,-,-⟩:=h.2 0 (by omega)
 have each:∀ k,k<n→∃ (al gr:Value) (E:Option (List UInt8)),mid w b (o+k*33)=(F k).e.vals al gr∧EncE (F k).e al gr w E:=fun k hk=>by
  obtain⟨b',o',e,-,a1,c1,a2,c2,FF,hm,-,-,hI,hg⟩:=h.2 k hk
  cases e
  obtain⟨E,hE⟩:=renc_el (F k).e a1 (F k).n1 c1 FF _ _ w hI (hg (hF k hk).2).2 (hF k hk).1
  exact⟨_,_,E,hm,hE⟩
 refine⟨fun k=>if hk:k<n then Classical.choose (Classical.choose_spec (Classical.choose_spec (each k hk))) else none,fun k s hk hs=>?_,fun id=>?_⟩
 · simp only[dif_pos hk] at hs
   exact (Classical.choose_spec (Classical.choose_spec (Classical.choose_spec (each k hk)))).2.2 s hs
 · refine rrows id b o n c _ w hn (fun k hk=>?_) fun k hk W B=>?_
   · obtain⟨al,gr,E,hm,-⟩:=each k hk
     rw[hm];exact vals_size _ _ _
   · have q:=Classical.choose_spec (Classical.choose_spec (Classical.choose_spec (each k hk)))
     exact enc_at q.1 (dif_pos hk) (q.2.1 W B)
theorem rowE_good (id:Int) (y:Fu) (h:okX y=true):(rowE id (recX y)).1=id∧∃ z,decX (Ds.bl (rowE id (recX y)).2.2)=some z∧keyX z=kyR (rowE id (recX y)):=by
 refine⟨rfl,y,?_,?_⟩
 · show decX (Ds.bl ⟨(recX y).toArray⟩)=some y
   rw[Ds.bl_mk]
   exact decX_rec y h (recX_len y h)
 · show keyX y=Ds.bl ⟨((recX y).take 32).toArray⟩
   rw[Ds.bl_mk]
   unfold recX
   rw[List.take_append_of_le_length (by rw[keyX_len y h];exact Nat.le_refl _),List.take_of_length_le (by rw[keyX_len y h];exact Nat.le_refl _)]
theorem rowsE_good (id:Int) (E:Nat→Option (List UInt8)):∀ n,(∀ k s,k<n→E k=some s→∃ y:Fu,okX y=true∧recX y=s)→∀ x∈rowsE id E n,x.1=id∧∃ y,decX (Ds.bl x.2.2)=some y∧keyX y=kyR x
 | 0,_=>fun x hx=>by cases hx
 | n+1,hE=>fun x hx=>by
   have ih:=rowsE_good id E n (fun k s hk=>hE k s (by omega))
   rw[rowsE] at hx
   cases he:E n with
   | none=>rw[he] at hx;exact ih x hx
   | some s =>
     rw[he] at hx
     rcases List.mem_append.1 hx with hx | hx
     · exact ih x hx
     · rw[List.mem_singleton] at hx
       obtain⟨y,h1,rfl⟩:=hE n s (by omega) he
       subst hx
       exact rowE_good id y h1
theorem lt79 (c:UInt8) (r:List UInt8) (h:c<79):ltB [79,255] (c::r)=false:=by
 unfold ltB
 rw[decide_eq_false_iff_not]
 unfold Lib.compareBytes
 have h1:¬ (79:UInt8)<c:=fun h2=>absurd (UInt8.lt_trans h h2) (UInt8.lt_irrefl _)
 simp [h,h1]
theorem key_80 (y:Fu) (h:okX y=true) (h2:ltB [79,255] (keyX y)=true):(keyX y).head?=some 80:=by
 have hk:=(keyX_name y h).1
 have h3:=okX_kind y h
 rw[hk] at h2 ⊢
 have h4:∀ k:Int,Ek.letter k=80∨Ek.letter k<79:=fun k=>by
  unfold Ek.letter
  (repeat' split) <;> first | exact Or.inl rfl | exact Or.inr (by decide)
 rcases h4 y.1.kind with h5 | h5
 · rw[h5];rfl
 · rw[lt79 _ _ h5] at h2;cases h2
theorem err_pro (D:List Rw) (hd:DstL D) (hall:∀ x∈D,x.1=1∧∃ y,decX (Ds.bl x.2.2)=some y∧keyX y=kyR x) (k cd:Int) (h1:1≤k) :
  (k≤((srt 1 80 D).length:Int)+1→proF D 1 k cd (D.length+1) 0 [79,255] []=([],cd,k))∧(((srt 1 80 D).length:Int)+1<k→∃ ys:List Fu,ys.length=(srt 1 80 D).length∧proF D 1 k cd (D.length+1) 0 [79,255] []=(ys,0,((srt 1 80 D).length:Int)+1)):=by
 have h:=proF_good D 1 k cd hd hall (D.length+1) 0 [79,255] [] (by decide) (by omega) (Nat.lt_succ_of_le (cnt_le _ _ _)) (fun x hx hl=>by
  obtain⟨-,y,hy,he⟩:=hall x hx
  rw[← he] at hl ⊢
  exact key_80 y (decX_sound _ _ hy).1 hl)
 rw[aft_all] at h
 refine⟨fun q=>h.1 (by omega),fun q=>?_⟩
 obtain⟨ys,e1,e2⟩:=h.2 (by omega)
 refine⟨ys,e1,?_⟩
 rw[e2,List.nil_append,Int.zero_add]
end Go.Proofs.YtlmgolkgodfmpaaGreatDoor
