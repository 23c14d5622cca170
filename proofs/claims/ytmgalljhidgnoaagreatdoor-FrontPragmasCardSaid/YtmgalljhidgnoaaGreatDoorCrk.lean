/-
 Proof.
-/
import Derived.Test.YtmgalljhidgnoaaGreatDoorPrk
import Derived.Test.YtmgalljhidgnoaaGreatDoorVls
import Derived.KernelRfl
open List renaming replicate → vL, getD_eq_getElem?_getD → vM
noncomputable section
namespace Go.Den
open Go.RowKit
set_option maxRecDepth 100000
def jN:H:=I1 (vL G .dead++[.row (Ai [.Af,.Af,.Af,.Af] 0 .e) 4 0 60 true])
theorem crk(l c:Nat):Ml 5000 2000 (.func 13) [.ptr (CH G) 0,.str 3 6499937,.str l c] jN (λv _=>v=.int .i64 (.ofNat 0))
   =V (Ba (Int.ofNat 65536) (Int.ofNat l)) ((.int .i64 (.ofNat 4):U)=.int .i64 (.ofNat 0)) ((.int .i64 (.ofNat 0):U)=.int .i64 (.ofNat 0)):=by kernel_rfl
theorem Ajr{o:Ob FT}{a:P}(b:(I1 (vL G .dead++[o])).at a≠.dead):a=CH G:=by
 rw[Ie] at b;have c:(vL G (.dead:Ob FT)).length=G:=List.length_replicate ..;by_cases e:a.nat<G
 · rw[vM,List.getElem?_append_left (by rw[c];exact e),List.getElem?_replicate,if_pos e] at b;exact absurd rfl b
 · by_cases d:a.nat=G
   · rw[←d,Tb]
   · rw[vM,List.getElem?_eq_none (by rw[List.length_append,c,List.length_singleton];omega)] at b;exact absurd rfl b
theorem Bfk{a:H}{b:P}(c:G≤b.nat)(d:a.at b=.row (Ai [.Af,.Af,.Af,.Af] 0 .e) 4 0 60 true){f:List UInt8}(hs:f.length≤2048){g:KV}(h:g (.int .i64 (.ofNat 0)) (a.put b .dead)):W1 (.func 13) [.ptr b 0,.str 3 6499937,S f] a g:=by
 let ρ:P→P:=λi=>if i=CH G then b else i
 have k:∀{m j:Nat},m≠j→CH m≠CH j:=λ{m j} q e=>q (by rw[←C5 m,←C5 j,e]);have n:ρ (CH G)=b:=if_pos rfl;have o:∀m,m<G→ρ (CH m)=CH m:=λm hi=>if_neg (k (by omega));have p:jN.next.nat=G+1:=by rw[show jN.next=CH (G+1) from rfl,C5]
 have sub:∀(μ:Mu),μ.sub ρ jN (CH G)=μ b:=λμ=>by rw[Mu.sub_lt (by rw[p,C5];omega),n]
 refine mf (hs:=jN) (sargs:=[.ptr (CH G) 0,.str 3 6499937,S f]) (ρ:=ρ) (B:=b) (b0:=CH G) (r:=.int .i64 (.ofNat 0)) d (ts:=Ai [.Af,.Af,.Af,.Af] 0 .e) (by unfold jN;rw[Ie,C5];rfl) (λi r s=>absurd (Ajr s) r) (by rw[p,C5];omega) n (λt u=>⟨o t u,by rw[p,C5];omega⟩) ?_ ?_ ?_ rfl ?_ h
 · rintro μ w ⟨x,ws,_,⟨l,y,_⟩,_⟩;exact⟨l,y⟩
 · intro m hi μ v a c;have e:AD (Ai [.Af,.Af,.Af,.Af] 0 .e) m=(.Af:U):=by
    rw[Am,if_pos ⟨Nat.zero_le _,by show m<0+4;omega⟩]
    match m,hi with
    |0,_|1,_|2,_|3,_=>rfl
   rw[e] at a ⊢;exact⟨a,rfl⟩
 · rintro μ w ⟨x,ws,rfl,⟨l,y,g⟩,k,b,rfl,d,i⟩;exact⟨x,_,rfl,⟨l,by rw[sub];exact y,g⟩,k,b,rfl,d,i⟩
 · refine Wv (JZ 5000 2000) ((crk f.length (enc f)).mpr ?_);rw[show Ba (Int.ofNat 65536) (Int.ofNat f.length)=false by rw[Ge,decide_eq_false (by show¬(65536:Int)<(f.length:Int);omega)]];exact AR rfl rfl
end Go.Den
