/- The program's structures as plain data, by names of their fields. Written by wip/tools/kgen.py. -/
import Init
namespace Go.Proofs.YtfolaakllblhbaaDoor.X
structure Cmd where
  op : Int
  key : ByteArray
  value : List Int
  flags : Int
  exp : Int
  cas : Int
  delta : Int
  initial : Int
  makes : Bool
  sets : Bool
structure Cmd.Wf (x : Cmd) : Prop where
  op : -9223372036854775808 ≤ x.op ∧ x.op ≤ 9223372036854775807
  key : x.key.size ≤ 9223372036854775807
  value : x.value.length ≤ 9223372036854775807 ∧ ∀ y ∈ x.value, 0 ≤ y ∧ y ≤ 255
  flags : 0 ≤ x.flags ∧ x.flags ≤ 4294967295
  exp : -9223372036854775808 ≤ x.exp ∧ x.exp ≤ 9223372036854775807
  cas : 0 ≤ x.cas ∧ x.cas ≤ 18446744073709551615
  delta : 0 ≤ x.delta ∧ x.delta ≤ 18446744073709551615
  initial : 0 ≤ x.initial ∧ x.initial ≤ 18446744073709551615
structure Form where
  dialect : Int
  verb : ByteArray
  code : Int
  opq : Int
  quiet : Bool
  withcas : Bool
  flags : ByteArray
  tokens : List ByteArray
  keys : List ByteArray
  base64 : Bool
structure Form.Wf (x : Form) : Prop where
  dialect : -9223372036854775808 ≤ x.dialect ∧ x.dialect ≤ 9223372036854775807
  verb : x.verb.size ≤ 9223372036854775807
  code : -9223372036854775808 ≤ x.code ∧ x.code ≤ 9223372036854775807
  opq : 0 ≤ x.opq ∧ x.opq ≤ 4294967295
  flags : x.flags.size ≤ 9223372036854775807
  tokens : x.tokens.length ≤ 9223372036854775807 ∧ ∀ y ∈ x.tokens, y.size ≤ 9223372036854775807
  keys : x.keys.length ≤ 9223372036854775807 ∧ ∀ y ∈ x.keys, y.size ≤ 9223372036854775807
structure Request where
  cmds : List Cmd
  form : Form
structure Request.Wf (x : Request) : Prop where
  cmds : x.cmds.length ≤ 9223372036854775807 ∧ ∀ y ∈ x.cmds, y.Wf
  form : x.form.Wf
structure Result where
  status : Int
  value : List Int
  flags : Int
  cas : Int
  ttl : Int
  number : Int
  stale : Bool
  won : Bool
  lost : Bool
structure Result.Wf (x : Result) : Prop where
  status : -9223372036854775808 ≤ x.status ∧ x.status ≤ 9223372036854775807
  value : x.value.length ≤ 9223372036854775807 ∧ ∀ y ∈ x.value, 0 ≤ y ∧ y ≤ 255
  flags : 0 ≤ x.flags ∧ x.flags ≤ 4294967295
  cas : 0 ≤ x.cas ∧ x.cas ≤ 18446744073709551615
  ttl : -9223372036854775808 ≤ x.ttl ∧ x.ttl ≤ 9223372036854775807
  number : 0 ≤ x.number ∧ x.number ≤ 18446744073709551615
end Go.Proofs.YtfolaakllblhbaaDoor.X
