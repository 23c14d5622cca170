/-
  A part of the proof: a map's sorted keys, and the tables of calls with some calls told ahead.
-/
import Derived.Test.YtpjkiikmjddpiaaGreatDoorStrs
import Derived.Test.YtpjkiikmjddpiaaGreatDoorDenQ
namespace Go.Den
open Go.RowKit
set_option maxRecDepth 100000
noncomputable def isSt (x:AV):Bool:=match x with
  |.str _ _=>true
  |_=>false
noncomputable def shortS (x:AV):Bool:=match x with
  |.str l _=>Nat.ble l 1000000
  |_=>false
noncomputable def ltV (x y:AV):Bool:=match x with
  |.str l c=>match y with
    |.str m d=>ltS l c m d
    |_=>false
  |_=>false
noncomputable def sameS (x y:AV):Bool:=match x with
  |.str l c=>match y with
    |.str m d=>strEq l c m d
    |_=>false
  |_=>false
noncomputable def insK (x:AV) (l:List AV):List AV:=List.rec [x] (fun y r ih=>Bool.rec (y::ih) (x::y::r) (ltV x y)) l
noncomputable def sortK (es:Es):List AV:=List.rec [] (fun e _ ih=>insK e.1 ih) es
noncomputable def allB {α:Type} (p:α→Bool) (l:List α):Bool:=List.rec true (fun x _ ih=>Bool.rec false ih (p x)) l
noncomputable def apartK (es:Es):Bool:=List.rec true (fun e r ih=>band (allB (fun f=>band (bnot (sameS e.1 f.1)) (bnot (Nat.beq e.2.2 f.2.2))) r) ih) es
noncomputable def checkK (es:Es) (ck:Nat):Bool:=band (Nat.ble (len es) 1000) (band (allB (fun e=>band (shortS e.1) (Nat.ble (Nat.add e.2.2 1) ck)) es) (apartK es))
noncomputable def forceL (l:List AV):(List AV→Prop)→Prop:=List.rec (motive:=fun _=>(List AV→Prop)→Prop) (fun K=>K []) (fun x _ ih K=>forceV x (fun x=>ih (fun r=>K (x::r)))) l
noncomputable def sK2 (es:Es) (ck:Nat) (h:H) (k:KV):Prop:=
  cnd (checkK es ck) (forceL (sortK es) (fun T=>List.rec (k .nils h) (fun _ _ _=>Hp.newK h (.row (tlist T 0 .e) (len T) 0 9 false) (fun b h'=>k (.slice b 0 (len T) 1 false) h')) T)) False
noncomputable def asMp (v:AV) (K:P→Prop):Prop:=match v with
  |.map m=>K m
  |_=>False
noncomputable def sK (v:AV) (h:H) (k:KV):Prop:=match v with
  |.func (.func i) [] [.ptr p o]=>cnd (band (Nat.beq i 75) (Nat.beq o 0)) (match h.at p with
    |.row t n _ _ w=>cnd (band w (Nat.ble 1 n)) (asMp (tget t 0) (fun m=>match h.at m with
      |.map es ck=>sK2 es ck h k
      |_=>False)) False
    |_=>False) False
  |_=>False
noncomputable def arg1B (a:List AV) (K:AV→Prop):Prop:=match a with
  |[v]=>K v
  |_=>False
/-- sorted keys are told ahead -/
noncomputable def callsS (m:Nat) (n:Nat):Caller Prop FT:=Nat.rec (fun _ _ _ _=>False) (fun _ c fn a h k=>Fn.rec
  (fun i=>cnd (Nat.beq i 48) (arg1B a (fun v=>sK v h k)) (disp c m i a h k))
  (fun _=>False) (fun _ _=>False) (fun _ _ _ _=>False) (fun l=>yieldA env c (okLp PP env G) l a h k) fn) n
/-- sorted keys are told ahead, and one function without arguments that answers true -/
noncomputable def callsT (w m:Nat) (n:Nat):Caller Prop FT:=Nat.rec (fun _ _ _ _=>False) (fun _ c fn a h k=>Fn.rec
  (fun i=>cnd (Nat.beq i 48) (arg1B a (fun v=>sK v h k)) (cnd (Nat.beq i w) (List.rec (k (.bool true) h) (fun _ _ _=>False) a) (disp c m i a h k)))
  (fun _=>False) (fun _ _=>False) (fun _ _ _ _=>False) (fun l=>yieldA env c (okLp PP env G) l a h k) fn) n
end Go.Den
